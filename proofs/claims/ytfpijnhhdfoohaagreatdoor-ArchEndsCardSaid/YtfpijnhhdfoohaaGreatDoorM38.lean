/- Parts of the proof of ArchEnds: Wd2 Wd3 Wd4 We1 Co Cp Cq We2. -/
import Derived.Test.YtfpijnhhdfoohaaGreatDoorM03
import Derived.Test.YtfpijnhhdfoohaaGreatDoorM37
import Derived.Test.YtfpijnhhdfoohaaGreatDoorM12
import Derived.Test.YtfpijnhhdfoohaaGreatDoorM10
import Derived.Test.YtfpijnhhdfoohaaGreatDoorM01
import Derived.Test.YtfpijnhhdfoohaaGreatDoorM07
set_option linter.unusedVariables false
set_option linter.unusedSectionVars false
set_option linter.unusedSimpArgs false
set_option maxHeartbeats 8000000
set_option maxRecDepth 100000
namespace Go.Proofs.YtfpijnhhdfoohaaGreatDoor
open Go.RowKit Go.Fk
def nP(l:List UInt8):List UInt8:=64::l
theorem GZ(d:Nat)(q z:List (List UInt8))(F:Nat->Prop)(x:List UInt8)(w:World)(h:jS d q ro z F w)(V:q.length<=1)(X:z.length<=2000000000) :
  Calls Tryz.prog 152 #[S x,.pointer (some ⟨d,0,none⟩)] w fun e I=>e=.returned (.tuple #[]) /\
   ∃ m,jS d q ro (z++[x]) m I/\ah F w I/\(∀ b,m b->F b\/w.heap.size<=b):=by
 obtain⟨M,o,A,J⟩:=h;have Y:=af o 0 rfl;have Z:d<w.heap.size:=(aM.1 o).1;have B:=ad o;clear o;go_enter Tryz.func152, Tryz.ntmps152;go_wp2_with (at_builtin;refine cW eS rfl (.tmp 3) (.tmp 5) 107 rfl Tryz.underlying107 (d+1) rfl A [ro x] _ _ _ rfl rfl rfl ?c1 ?c2 ?_);case c1=>simp;omega
 case c2=>omega
 intro v' K D;have O:=A.ne_cells B.out (by decide);have L:=ad (D.chg'.heap B.out O);have d1:K.cell? ⟨d,0,none⟩=some M:=by rw [aA L.out];rfl
 have e1:K.frozen? ⟨d,0,none⟩=false:=al L.out 0;obtain⟨a,n',aj,rfl⟩:=D.own.shape;go_wp2_with fail;go_end0;obtain⟨m,Q,R,U⟩:=jS.put (g:=ro) (x:=x) B.out A (by rw [mG];exact D);refine⟨rfl,m,Q,R.mono (fun b _ G=>(J b).2 G),fun b G=>(U b G).imp (fun h=>(J b).2 h) id⟩
theorem GY(d:Nat):uV 152 #[.pointer (some ⟨d,0,none⟩)] (jS d [] ro):=
 ⟨fun h e m=>h.loc e m,fun h=>h.bd,fun x h _ o=>GZ d [] _ _ x _ h (by simp) o⟩
theorem GX(d:Nat)(q z:List (List UInt8))(F:Nat->Prop)(x:List UInt8)(w:World)(h:jS d q nP z F w)(X:q.length<=1000000)(Y:z.length<=2000000000)(Z:x.length<=24) :
  Calls Tryz.prog 153 #[S x,.pointer (some ⟨d,0,none⟩)] w fun e I=>e=.returned (.tuple #[]) /\
   ∃ m,jS d q nP (z++[x]) m I/\ah F w I/\(∀ b,m b->F b\/w.heap.size<=b):=by
 obtain⟨M,o,A,J⟩:=h;have c0:=af o 0 rfl;have aa:d<w.heap.size:=(aM.1 o).1;have B:=ad o;have O:(⟨#[64]⟩:ByteArray)++(⟨x.toArray⟩:ByteArray)=⟨(64::x).toArray⟩:=by exact ByteArray.ext (by simp [ByteArray.data_append])
 clear o;have ab:¬(9223372036854775807:Int)<1+x.length:=by omega
 go_enter Tryz.func153, Tryz.ntmps153;go_wp2_with (at_builtin;refine cW eS rfl (.tmp 3) (.tmp 6) 107 rfl Tryz.underlying107 (d+1) rfl A [nP x] _ _ _ ?c0 rfl rfl ?c1 ?c2 ?_);case c0=>first | rfl | (simp [O,nP];rfl)
 case c1=>omega
 case c2=>omega
 intro v' K D;have Q:=A.ne_cells B.out (by decide);have L:=ad (D.chg'.heap B.out Q);have d1:K.cell? ⟨d,0,none⟩=some M:=by rw [aA L.out];rfl
 have e1:K.frozen? ⟨d,0,none⟩=false:=al L.out 0;obtain⟨a,n',ap,rfl⟩:=D.own.shape;go_wp2_with fail;go_end0;obtain⟨m,R,U,V⟩:=jS.put (g:=nP) (x:=x) B.out A (by rw [mG];exact D);refine⟨rfl,m,R,U.mono (fun b _ G=>(J b).2 G),fun b G=>(V b G).imp (fun h=>(J b).2 h) id⟩
theorem GW(d:Nat)(e:List (List UInt8))(m:e.length<=1000000):uV 153 #[.pointer (some ⟨d,0,none⟩)] (jS d e nP):=
 ⟨fun h o q=>h.loc o q,fun h=>h.bd,fun x h z A=>GX d e _ _ x _ h m A z⟩
theorem GU(a b:List UInt8):cz ((gU a++(gU b).map nP).mergeSort fun x y=>decide (x<=y))=om a b:=by
 refine Pd _ _ ?_ (List.mergeSort_perm _ _);have h:=List.pairwise_mergeSort (le:=fun(x y:List UInt8)=>decide (x<=y)) (fun a b c d e=>by simp only [fx]at *;exact List.le_trans d e) (fun a b=>by simp only [Bool.or_eq_true,fx];exact List.le_total a b) (gU a++(gU b).map nP);exact h.imp (fun h=>by simpa using h)
theorem QJ(r:aF)(w:World)(h1:r.text.length<=1000000)(h2:r.source.length<=1000000) :
  Calls Tryz.prog 102 #[lA r] w fun e I=>∃ v,e=.returned v/\Ow I w.heap.size eS v (om r.text r.source)/\Fr w I:=by
 have bb:∀ (J:Fn) (first K:Array Value) (w:World),(Instr.makeFunc J first K).run Tryz.prog w=.ok (.func J first K) w:=fun _ _ _ _=>rfl;have M:=ad (GU r.text r.source);have bc:=tI r.text;have bd:=tI r.source;generalize om r.text r.source=T at *;go_enter Tryz.func102, Tryz.ntmps102;go_wp2_with fail;have z:(w.alloc (.cells #[.int .u64 r.time.toNat,Fk.u8 r.level,S r.source,S r.text] 40)).heap.size=w.heap.size+1:=eg _ _;have B:Fr w ((w.alloc (.cells #[.int .u64 r.time.toNat,Fk.u8 r.level,S r.source,S r.text] 40)).alloc (.cells #[.slice none 0 0] 107)):=((Fr.refl w).alloc _).alloc _;have O:((w.alloc (.cells #[.int .u64 r.time.toNat,Fk.u8 r.level,S r.source,S r.text] 40)).alloc (.cells #[.slice none 0 0] 107)).heap[w.heap.size]?=some (.cells #[.int .u64 r.time.toNat,Fk.u8 r.level,S r.source,S r.text] 40 (0,0)):=by rw [ig _ _ _ (by rw [z];omega)];exact a9 _ _ _ rfl
 have Q:((w.alloc (.cells #[.int .u64 r.time.toNat,Fk.u8 r.level,S r.source,S r.text] 40)).alloc (.cells #[.slice none 0 0] 107)).heap[w.heap.size+1]?=some (.cells #[.slice none 0 0] 107 (0,0)):=a9 _ _ _ z.symm;refine(AJ (GY (w.heap.size+1)) (Di Tryz.func152 (by kernel_rfl) rfl) r.text [] (fun b=>b=w.heap.size+1) _ ?h (by simp;omega)).mono ?_;case h=>exact⟨_,Q,Ow.nil,fun b=>by simp [Value.ownBlock]⟩
 rintro e w1 ⟨rfl,F1,⟨R,U,o,bk⟩,D,bl⟩;have V:=D.heap O (by omega);have F:Fr w w1:=ah.below B D B.size (fun i e=>by omega);have k2:=af V 2 rfl;have m:([]:List (List UInt8))++(([]:List (List UInt8))++gU r.text).map ro=gU r.text:=List.map_id _;rw [m]at o;clear m O Q B z D;go_wp2_with fail;refine(AJ (GW (w.heap.size+1) (gU r.text) (by omega)) (Di Tryz.func153 (by kernel_rfl) rfl) r.source [] (fun b=>b=w.heap.size+1\/R.ownBlock=some b) _ ?h (by simp;omega)).mono ?_;case h=>exact⟨R,U,by simpa using o,fun b=>Iff.rfl⟩
 rintro e X ⟨rfl,F2,⟨Y,q,d,bs⟩,Z,bu⟩;have a1 : Fr w X := ah.below F Z F.size (fun i e => by
  rcases e with e | e;· omega
  · have := (o.lt i e).1; omega)
 have m:([]:List (List UInt8))++gU r.source=gU r.source:=rfl;rw [m]at d;obtain⟨L,G⟩:∃ L,L=gU r.text++(gU r.source).map nP:=⟨_,rfl⟩;have bv:L.length<=2000000:=by rw [G];simp;omega
 rw [<- G]at d M;have bx:=af q 0 rfl;have hH:=ad q;have aa:=ad (QW Y L _ X d (by omega));have a3:=d.ne_cells q (by decide);have ab:=d.lt;clear m G q o U Z k2 V F d;go_wp2_with fail;refine aa.out.mono ?_;rintro e w3 ⟨rfl,aj,ak⟩;have a4:=(lL ak).heap hH.out a3;have b0:=af a4 0 rfl;have a5:Fr w w3:=a1.own ak (fun k e=>by have:=(ab k e).1;omega);have ap:=ad (QY Y _ _ w3 aj (by rw [List.length_mergeSort];omega));rw [M.out]at ap;clear aj aa;go_wp2_with fail;refine ap.out.mono ?_;rintro e w4 ⟨v4,rfl,a6,a7⟩;go_wp2_with fail;go_ret;exact⟨_,rfl,a6.rebase (by omega),a5.own a7 (fun k e=>by have:=(ab k e).1;omega)⟩
def SW(s:List UInt8)(i:Nat):Bool:=decide (0<i) && (match s[i - 1]? with | some c=>iR c | none=>false)
theorem AG{w:World}{v:Value}{l:List (List UInt8)}(h:ai w eS v l)(k:Nat)(e:k<l.length):∃ b d m,v=.slice (some ⟨b,d,none⟩) l.length m/\w.cell? ⟨b,d+k,none⟩=some (S l[k]):=h.cell1 S rfl k e
def Gs(l:List (List UInt8)):Prop:=kY l/\(∀ s∈l,1<=s.length/\s.length<=25)/\l.length<=1000000
theorem Mr{a b:List UInt8}(h:a<b):Op.bytesLess a b=true:=by rw [Go.Proofs.bytesLess_eq];exact bt h
theorem Cx{a b:List UInt8}(h:¬a<b):Op.bytesLess a b=false:=by rw [Go.Proofs.bytesLess_eq];exact aX h
theorem Oy(d s:List UInt8)(w:World)(q:1<=s.length)(z:s.length<=25)(m:d<s) :
  Calls Tryz.prog 184 #[S d,S s] w fun e o=>e=.returned (.bool true)/\w=o:=by
 have A:=Cx (fun h=>rz _ (List.lt_trans h m):¬s<d);have B:(s == d)=false:=by rw [zh];rintro rfl;exact rz _ m
 have D:s.isEmpty=false:=by cases s <;> simp_all
 have F:(s == [])=false:=by cases s <;> simp_all
 have G:(s != [])=true:=by cases s <;> simp_all
 have I:(s.length:Int)<=25:=by omega
 clear m;go_enter Tryz.func184, Tryz.ntmps184;go_wp2_with fail;go_ret;exact⟨by first | rfl | simp,rfl⟩
theorem uM(a:List UInt8)(k:Nat)(d:k<a.length):∃ x,a[k]=x/\(⟨a.toArray⟩:ByteArray)[k]'(by simpa [ByteArray.size] using d)=x:=⟨_,rfl,rfl⟩
theorem Lv(x y:UInt8)(h:¬x=y):((x.toNat:Int) == (y.toNat:Int))=false:=
 zh.2 fun d=>h (eA.1 (by omega))
theorem Oh(a b:List UInt8)(U:a.length<=1000000000)(w:World) :
  Calls Tryz.prog 186 #[S a,S b] w fun e K=>e=.returned (N (kK a b))/\Fr w K:=by
 have F:=ad (AX a b);generalize kK a b=Z at *;go_enter Tryz.func186, Tryz.ntmps186;go_wp2_with fail;go_loopw [5] (fun G wr=>∃ k:Nat,k<=a.length/\k<=b.length/\G=N k/\Hid (∀ i,i<k->a[i]?=b[i]?)/\Fr w wr) (fun G _=>a.length - (intOf G).toNat);case atStart=>exact⟨0,an _,an _,rfl,ad (fun i h=>by omega),Fr.refl w⟩
 case round=>
  obtain⟨k,I,J,rfl,B,D⟩:=hrel;have V:(0:Int)<=k:=(by omega);by_cases m:k<a.length
  · have L:(k:Int)<a.length:=(by omega);by_cases o:k<b.length
    · have M:(k:Int)<b.length:=(by omega);by_cases d:a[k]=b[k]
      · have O:Hid (∀ i,i<k+1->a[i]?=b[i]?):=fun i X=>by
          by_cases e:i=k;· subst e;rw [bE m,bE o,d]
          · exact B.out i (by omega)
        obtain⟨x,q,Q⟩:=uM a k m;obtain⟨y,z,R⟩:=uM b k o;obtain rfl:x=y:=(by rw [<- q,<- z,d]);clear q z d;go_upto_region 2 with fail;go_quiet (fail);go_wp2_with fail;exact⟨⟨k+1,by omega,by omega,by go_num,O,D.drewN _⟩,by simp [intOf];omega⟩
      · have A:Hid (Z=k):=F.out k I J B.out (fun _ _=>by rw [bE m,bE o];simpa using d);obtain⟨x,q,Q⟩:=uM a k m;obtain⟨y,z,R⟩:=uM b k o;have Y:=Lv x y (by rw [<- q,<- z];exact d);clear q z d;go_upto_region 2 with fail;go_quiet (fail);go_wp2_with fail;go_ret;exact⟨by rw [A.out];rfl,D.drewN _⟩
    · have M:¬(k:Int)<b.length:=(by omega);have A:Hid (Z=k):=F.out k I J B.out (fun _ h=>absurd h o);go_upto_region 2 with fail;go_quiet (fail);go_wp2_with fail;go_ret;exact⟨by rw [A.out];rfl,D.drewN _⟩
  · have L:¬(k:Int)<a.length:=(by omega);have A:Hid (Z=k):=F.out k I J B.out (fun h _=>absurd h m);go_upto_region 2 with fail;go_quiet (fail);go_wp2_with fail;go_ret;exact⟨by rw [A.out];rfl,D.drewN _⟩
theorem Oz(d s:List UInt8)(w:World) :
  Calls Tryz.prog 184 #[S d,S s] w fun e q=>e=.returned (.bool (nE d s))/\w=q:=by
 by_cases h:1<=s.length/\s.length<=25/\d<s;· refine(Oy d s w h.1 h.2.1 h.2.2).mono ?_;rintro e q ⟨rfl,rfl⟩;have z:¬s=[]:=(by intro e;rw [e]at h;exact absurd h.1 (by decide));refine⟨?_,rfl⟩;unfold nE;simp [z,h.2.1,h.2.2]
 · have m:Hid (nE d s=false):=by
     show _=_;unfold nE
     cases s with
     | nil=>simp
     | cons c t=>simp at h ⊢;exact h
   by_cases D:s=[];· subst D;clear h;go_enter Tryz.func184, Tryz.ntmps184;go_wp2_with fail;go_ret;exact⟨by rw [m.out];first | rfl | simp,rfl⟩
   · have z:s.isEmpty=false:=(by cases s <;> simp_all);have K:(s == [])=false:=(by cases s <;> simp_all);have L:(s != [])=true:=(by cases s <;> simp_all);by_cases F:s.length<=25
     · have G:(s.length:Int)<=25:=(by omega);have o:¬d<s:=fun I=>h ⟨by cases s <;> simp_all,F,I⟩;clear h;by_cases A:s=d;· subst A;clear o;have J:Op.bytesLess s s=false:=Cx (rz _);go_enter Tryz.func184, Tryz.ntmps184;go_wp2_with fail;go_ret;exact⟨by rw [m.out];first | rfl | simp,rfl⟩
       · have B:s<d:=by
           rcases Std.lt_trichotomy s d with h | h | h;· exact h
           · exact absurd h A
           · exact absurd h o
         have J:Op.bytesLess s d=true:=Mr B;clear o B;go_enter Tryz.func184, Tryz.ntmps184;go_wp2_with fail;go_ret;exact⟨by rw [m.out];first | rfl | simp,rfl⟩
     · have G:¬(s.length:Int)<=25:=(by omega);clear h;go_enter Tryz.func184, Tryz.ntmps184;go_wp2_with fail;go_ret;exact⟨by rw [m.out];first | rfl | simp,rfl⟩
theorem MB(a b:List UInt8):(⟨a.toArray⟩:ByteArray)++⟨b.toArray⟩=⟨(a++b).toArray⟩:=by
 apply ByteArray.ext;simp
theorem Li(d:Cs)(part e:List UInt8)(first:Bool)(h:(jj d part e first).2.er=0):(kh d part e first).1<=e.length:=by
 unfold kh;split;· exact an _
 · show Cs.val _ _<=_;unfold Cs.val;split;· rename_i h;exact(lH _ _ h.2).2.2
   · exact an _
theorem Lh(d:Cs)(part e:List UInt8)(first:Bool):(jj d part e first).1.length<=25:=by
 unfold jj Cs.text;split
 · by_cases h:(ed 25 (List.drop (kh d part e first).2.at_ part)).2.2=0;· exact(tN _ _ h).2.2
   · rw [(Gt _ _ h).1];exact an _
 · exact an _
theorem Ox(B base:Nat)(d:Cs)(part o:List UInt8)(first:Bool)(w:World)(Z:ar w 130 B base part d.at_ d.er)(hl:part.length<=1000000)(hw:o.length<=1000) :
  Calls Tryz.prog 237 #[.pointer (some ⟨B,0,none⟩),S o,.bool first] w fun e w'=>∃ u,e=.returned (S u)/\((iQ d part o first).er=0->u=lD d part o first)/\ar w' 130 B base part (iQ d part o first).at_ (iQ d part o first).er/\ah (fun b=>b=B) w w':=by
 have aa:=ad (nR o.length (by omega) B base d part w Z hl);have bu:=ad (fun s W (h:ar W 130 B base part s.at_ s.er)=>sV 25 (by omega) B base s part W h hl);have bv:=ad (fun n er W h=>iE B base n er part W h);have b0:=ad (fun s W (h:ar W 130 B base part s.at_ s.er)=>pY 2 B base s part W h);have K:Hid (kh d part o first=if first then(0,d)else d.int part o.length):=rfl;have a4:Hid (jj d part o first=(kh d part o first).2.text part 25):=rfl;have HC:Hid (iQ d part o first=if(jj d part o first).2.er=0/\pG d part o first=false then⟨(jj d part o first).2.at_,2⟩else(jj d part o first).2):=rfl;have HS:Hid (lD d part o first=o.take (kh d part o first).1++(jj d part o first).1):=rfl;have HO:Hid (pG d part o first=(decide (¬(jj d part o first).1=[]) && nE o (lD d part o first) && (first || decide (kK o (lD d part o first)=(kh d part o first).1)))):=rfl;have aj:=ad (Li d part o first);have ak:=Lh d part o first;generalize iQ d part o first=C at *;generalize pG d part o first=D at *;generalize lD d part o first=s at *;generalize hR:jj d part o first=R at *;obtain⟨rest,q⟩:=R;have a6:Hid ((kh d part o first).2.text part 25=(rest,q)):=a4.out.symm;clear hR a4;obtain⟨M,hM⟩:∃ M,M=kh d part o first:=⟨_,rfl⟩;rw [<- hM]at K a6 HO aj;have av:Hid (s=o.take M.1++rest):=by rw [hM];exact HS.out
 have a7:=ad Z;obtain⟨m,I⟩:=M;clear hM;have a0:=ad (bu.out I);rw [a6.out]at a0;clear Z HS;go_enter Tryz.func237, Tryz.ntmps237;go_upto_if 11 with fail;go_cut [7]from 12 to 16 (fun nv L=>nv=N m/\ar L 130 B base part I.at_ I.er/\ah (fun b=>b=B) w L)
 case first=>
  cases first;· have z:Hid (d.int part o.length=(m,I)):=K.out.symm;rw [z.out]at aa;go_wp2_with fail;refine(aa.out).mono ?_;rintro e w1 ⟨rfl,O,Q⟩;go_wp2_with fail;go_meet;exact⟨rfl,O,Q⟩
  · have z:(m,I)=(0,d):=K.out;cases z;go_wp2_with fail;go_meet;exact⟨rfl,a7.out,ah.refl _ _⟩
 case rest=>
  obtain⟨rfl,O,Q⟩:=hcut;have aC:=ad (a0.out wc O);clear a0 aa a7 K O;go_wp2_with fail;refine(aC.out).mono ?_;rintro e F ⟨rfl,U,ba⟩;have a1:=Q.trans ba fun _ _ h=>h;have V:=ad (bv.out _ _ F U);clear Q ba aC;by_cases G:q.er=0
  · have bb:=aj.out G;rw [G]at V;have b3:=NQ o m;have b4:(⟨(o.take m).toArray⟩:ByteArray)++⟨rest.toArray⟩=⟨s.toArray⟩:=(by rw [MB,av.out]);have b5:s.length<=1025:=(by rw [av.out,aD,aG];have:rest.length<=25:=ak;omega);have m1:(m:Int)<=o.length:=(by have:m<=o.length:=bb;omega);have m0:(0:Int)<=m:=(by omega);have b8:rest.length<=25:=ak;have X:=ad (fun W=>Oz o s W);have bc:=ad (fun W=>Oh o s (by omega) W);have Y:Hid (D=(decide (¬rest=[]) && nE o s && (first || decide (kK o s=m)))):=HO.out;have HE:=ad G;clear G bb ak HO aj av;generalize nE o s=my at *;generalize kK o s=sm at *;go_wp2_with fail;refine(V.out).mono ?_;rintro e w3 ⟨rfl,rfl⟩;go_upto_region 8 with fail;clear V b3 b4 m1 m0 b5 b8;go_cut [44]from 26 to 44 (fun cv L=>cv=.bool (!D)/\Fr F L)
    case first=>
     by_cases z:rest=[];· have A:Hid (D=false):=(by show _=_;rw [Y.out,z];rfl);subst z;go_wp2_with fail;go_meet;exact⟨by rw [A.out];rfl,Fr.refl _⟩
     · have ch:rest.isEmpty=false:=(by cases rest <;> simp_all);have cj:(rest == [])=false:=(by cases rest <;> simp_all);have ck:(rest != [])=true:=(by cases rest <;> simp_all);cases my;· have A:Hid (D=false):=(by show _=_;rw [Y.out];simp);go_wp2_with fail;refine(X.out F).mono ?_;rintro e w4 ⟨rfl,rfl⟩;go_wp2_with fail;go_meet;exact⟨by rw [A.out];rfl,Fr.refl _⟩
       · cases first;· have A:Hid (D=decide (sm=m)):=(by show _=_;rw [Y.out];simp [z]);have bf:((sm:Int) != m) = !(decide (sm=m)):=(by rw [vG];simp;omega);have bL:=ad bf;clear bf;go_wp2_with fail;refine(X.out F).mono ?_;rintro e w4 ⟨rfl,rfl⟩;go_wp2_with fail;refine(bc.out F).mono ?_;rintro e w5 ⟨rfl,bR⟩;go_wp2_with fail;go_meet;exact⟨by rw [A.out,<- bL.out],bR⟩
         · have A:Hid (D=true):=(by show _=_;rw [Y.out];simp [z]);go_wp2_with fail;refine(X.out F).mono ?_;rintro e w4 ⟨rfl,rfl⟩;go_wp2_with fail;go_meet;exact⟨by first | (rw [A.out];done) | (rw [A.out];rfl),Fr.refl _⟩
    case rest=>
     obtain⟨rfl,bk⟩:=hcut;have bl:=U.fr bk;have bm:=a1.trans (bk.chg (fun b=>b=B)) fun _ _ h=>h;have bs:=ad (b0.out q wc bl);clear U a1 X bc;cases D;· have J:Hid (C=⟨q.at_,2⟩):=(by show _=_;rw [HC.out,ag ⟨HE.out,rfl⟩]);have h4:Hid (q.fail 2=⟨q.at_,2⟩):=(by show _=_;unfold Cs.fail;rw [ag HE.out]);rw [h4.out]at bs;go_wp2_with fail;refine(bs.out).mono ?_;rintro e w4 ⟨rfl,ca,cb⟩;go_wp2_with fail;go_ret;rw [J.out];exact⟨s,rfl,fun _=>rfl,ca,bm.trans cb fun _ _ h=>h⟩
     · have J:Hid (C=q):=(by show _=_;rw [HC.out,ae (fun h=>by cases h.2)]);go_wp2_with fail;go_ret;rw [J.out];exact⟨s,rfl,fun _=>rfl,bl,bm⟩
  · have J:Hid (C=q):=(by show _=_;rw [HC.out,ae (fun h=>G h.1)]);have cm:¬(q.er:Int)=0:=(by omega);go_wp2_with fail;refine(V.out).mono ?_;rintro e w3 ⟨rfl,rfl⟩;go_wp2_with fail;go_ret;rw [J.out];exact⟨[],rfl,fun h=>absurd h G,U,a1⟩
theorem qI{a b:Option Nat}(h:a=none\/a≠b):b=none\/b≠a:=by
 cases b with
 | none=>exact .inl rfl
 | some k=>
  refine .inr fun e=>?_;rcases h with h | h;· rw [h]at e;cases e
  · exact h e.symm
structure kB (w:World) (g base size:Nat) (t hs:List (List UInt8)):Prop where
 h:∃ tv hv,w.heap[g]?=some (.cells #[tv,N size,hv] 315 (0,0))/\Ow w base eS tv t/\Ow w base eS hv hs/\(tv.ownBlock=none\/tv.ownBlock≠hv.ownBlock)
 lt:g<base
theorem kB.fr{w e:World}{g base size:Nat}{t m:List (List UInt8)}(h:kB w g base size t m)(d:Fr w e):kB e g base size t m:=by
 obtain⟨⟨o,q,z,A,B,D⟩,F⟩:=h;exact⟨⟨o,q,d.heap z,A.fr d,B.fr d,D⟩,F⟩
theorem kB.beside{w o:World}{B g base size:Nat}{t q:List (List UInt8)}{G:Array Value}{T:TypeId}{f:Nat × Nat}(h:kB w g base size t q)(z:w.heap[B]?=some (.cells G T f))(A:T≠9)(I:B≠g)(d:ah (fun k=>k=B) w o):kB o g base size t q:=by
 obtain⟨⟨J,K,L,D,F,M⟩,O⟩:=h;exact⟨⟨J,K,d.heap L (fun e=>I e.symm),D.chg d (fun k m e=>D.ne_cells z A (by rw [m,show k=B from e])),F.chg d (fun k m e=>F.ne_cells z A (by rw [m,show k=B from e])),M⟩,O⟩
theorem C9(l:List (List UInt8))(h:0<l.length):l.getLastD []=l[l.length - 1]:=by
 rw [List.getLastD_eq_getLast?,List.getLast?_eq_getElem?,bE (by omega)];rfl
theorem M4(l:List (List UInt8))(h:∀ x∈l,x.length<=25):(l.getLastD []).length<=25:=by
 rcases jU l.length with d | d;· rw [ja d];exact an _
 · rw [C9 l d];exact h _ (bX _)
theorem BP(d:Cs)(part e:List UInt8)(first:Bool)(h:(iQ d part e first).er=0):(lD d part e first).length<=25:=by
 unfold iQ at h;split at h;· cases h
 · rename_i o;have m:pG d part e first=true:=by
    cases q:pG d part e first;· exact absurd ⟨h,q⟩ o
    · rfl
   unfold pG nE at m;simp only [iH,fx]at m;exact m.1.2.1.2
theorem NK(part:List UInt8)(n i:Nat)(d:Cs)(t:List (List UInt8))(h:i<n):gk part (n - i) i d t=if(iQ d part (t.getLastD []) (decide (i=0))).er=0 then gk part (n - (i+1)) (i+1) (iQ d part (t.getLastD []) (decide (i=0))) (t++[lD d part (t.getLastD []) (decide (i=0))])else(t,(iQ d part (t.getLastD []) (decide (i=0))).er):=by
 rw [show n - i=(n - (i+1))+1 by omega,gk]
theorem NJ(g base size n:Nat)(v:Value)(part:List UInt8)(J X:List (List UInt8))(w:World)(hD:kB w g base size J X)(m:ai w eB v part)(hl:part.length<=1000000)(hn:n<=100000)(ht:∀ x∈J,x.length<=25)(bl:J.length<=100000000)(ak:X.length<=100000000)(hb:base<=w.heap.size) :
  Calls Tryz.prog 203 #[.pointer (some ⟨g,0,none⟩),v,N n] w fun e w'=>e=.returned (.int .i64 ((gk part n 0 ⟨0,0⟩ J).2:Int))/\(∃ m,m.length<=X.length+1/\kB w' g base size (gk part n 0 ⟨0,0⟩ J).1 m)/\ah (fun k=>k=g\/base<=k) w w':=by
 have bL:=ad (m8 v part w m hl);have cE:=ad (fun B base d cF first W h hw=>Ox B base d part cF first W h hl hw);have cL:=ad (fun B base n er W h=>iE B base n er part W h);have cR:=ad (fun B base s W h=>EO B base s part W h);obtain⟨F,hF⟩:∃ F,F=gk part n 0 ⟨0,0⟩ J:=⟨_,rfl⟩;rw [<- hF];have HF:Hid (F=gk part (n - 0) 0 ⟨0,0⟩ J):=hF;clear hF;have cT:=ad (NK part n);have M:=hD.lt;obtain⟨a0,fl,rfl,_⟩:=m.shape;clear m;go_enter Tryz.func203, Tryz.ntmps203;go_wp2_with fail;refine(bL.out).mono ?_;rintro e w1 ⟨B,rfl,hC,a2,hB⟩;have bT:=hD.fr a2;have a3:B≠g:=by omega
 have dc:base<=w1.heap.size:=az hb a2.size;have fn:base<=B:=by omega
 clear bL hD;go_wp2_with fail;go_loopw [15] (fun iv wr=>∃ (i:Nat) (d:Cs) (t m:List (List UInt8)),i<=n/\iv=N i/\Hid (d.er=0)/\Hid (∀ x∈t,x.length<=25)/\t.length<=100000000+i/\m.length<=X.length+1/\Hid (i=0->m.length<=X.length)/\kB wr g base size t m/\ar wr 130 B w.heap.size part d.at_ d.er/\ah (fun k=>k=g\/base<=k) w wr/\base<=wr.heap.size/\Hid (F=gk part (n - i) i d t)) (fun iv _=>n - (intOf iv).toNat);case atStart=>exact⟨0,⟨0,0⟩,J,X,an _,rfl,rfl,ht,by omega,by omega,fun _=>am _,bT,hC,a2.chg _,dc,HF.out⟩
 case round=>
  clear bT hC a2 HF;obtain⟨i,d,t,m,hi,rfl,fv,ca,bl,ak,di,hD,hC,bs,hz,Y⟩:=hrel;obtain⟨tv,hv,K,q,Z,aa⟩:=hD.h;obtain⟨ta,tc,rfl⟩:=q.shape';have c0:=af K 0 rfl;by_cases dv:i<n
  · have i1:(i:Int)<n:=(by omega);have ab:=ad (cT.out i d t dv);have d0:=M4 t ca.out;have bv:=ad hC;have cc:=ad q.see;clear hC;go_upto_if 24 with fail;go_cut [9]from 25 to 39 (fun wv wx=>wv=S (t.getLastD [])/\Qt wr wx)
    case first=>
     by_cases d4:0<t.length;· obtain⟨b5,o5,p5,d5,e5⟩:=cc.out.cell1 (fun s:List UInt8=>S s) rfl (t.length - 1) (by omega);rw [<- C9 t d4]at e5;cases d5;have l0:(0:Int)<t.length:=(by omega);have l1:IntKind.i64.wrap ((t.length:Int) - 1)=(t.length:Int) - 1:=aw _ (by omega);have l2:(0:Int)<=(t.length:Int) - 1:=(by omega);have l3:((t.length:Int) - 1).toNat=t.length - 1:=(by omega);have l4:(t.length:Int) - 1<t.length:=(by omega);generalize t.getLastD []=ls at *;clear q K;go_wp2_with fail;go_quiet (fail);go_wp2_with fail;go_meet;exact⟨rfl,Qt.drewN _ _⟩
     · have d7:t=[]:=ja (by omega);subst d7;go_wp2_with fail;go_meet;exact⟨rfl,Qt.refl _⟩
    case rest=>
     obtain⟨rfl,hq⟩:=hcut;have ac:=hq.fr;have d9:decide ((i:Int)=0)=decide (i=0):=(by rw [vG];simp);have bx:=ad (cE.out B _ d (t.getLastD []) (decide (i=0)) wc (bv.out.fr ac) (by omega));have dE:=ad (BP d part (t.getLastD []) (decide (i=0)));generalize iQ d part (t.getLastD []) (decide (i=0))=D at *;generalize lD d part (t.getLastD []) (decide (i=0))=s at *;generalize t.getLastD []=ls at *;have ch:=hD.fr ac;have cj:=bs.trans (ac.chg (fun k=>k=g\/base<=k)) fun _ _ h=>h;have dT:=az hz ac.size;obtain⟨ec,a5⟩:=(bv.out.fr ac).cbox;have HH:=ad ak;have ck:=ad bl;clear hD bs hz K q Z aa c0 bv cc d0 ac ak bl;rw [<- d9]at bx;go_wp2_with fail;refine(bx.out).mono ?_;rintro e w5 ⟨z,rfl,b1,a6,O⟩;have aj:=ch.beside a5 (by decide) a3 O;have ap:=cj.trans (G':=fun k=>k=B) O fun k _ e=>.inr (by have e:k=B:=e;omega);have cm:=az dT O.size;have a7:=ad (cL.out B _ _ _ w5 a6);clear bx ch cj a5 O;by_cases Q:D.er=0
     · rw [ag Q]at ab;obtain rfl:=b1 Q;rw [Q]at a7;have cn:Hid (F=gk part (n - (i+1)) (i+1) D (t++[z])):=Y.out.trans ab.out;have cp:Hid (∀ x∈t++[z],x.length<=25):=fun x hx=>by
        rcases iZ.1 hx with h | h;· exact ca.out x h
        · rw [lT.1 h];exact dE.out Q
       have cq:=ad Q;obtain⟨tv,hv,K,q,Z,aa⟩:=aj.h;obtain⟨ta,tc,rfl⟩:=q.shape';have c0:=af K 0 rfl;have eq:Hid (t.length+[z].length<=2147483648):=(by have:=ck.out;show _<=_;simp;omega);have M:=aj.lt;clear Y ab Q b1 aj;go_wp2_with fail;refine(a7.out).mono ?_;rintro e w6 ⟨rfl,rfl⟩;go_wp2_with (at_builtin;refine cW eS rfl (.tmp 54) (.tmp 56) 107 rfl Tryz.underlying107 base rfl q [z] _ _ _ rfl rfl rfl eq.out cm ?_);intro v7 L o;obtain⟨G,I,cs⟩:=o.own.shape';rw [show(t++[z]).length=t.length+1 from by simp]at cs;subst cs;have aC:=o.chg'.heap K (fun e=>by have:=(q.lt _ e).1;omega);have e3:=af aC 0 rfl;have e4:=al aC 0;have ct:=o.other Z (qI aa);have ba:=qI (o.apart Z (qI aa));have cu:=a6.app q o (by decide) (by decide);have cv:ah (fun k=>k=g\/base<=k) w L:=ap.trans o.chg' fun k _ e=>.inr (q.lt k e).1;have c1:=az cm o.size;have A:=ao L ⟨g,0,none⟩ (.slice G (t.length+1) I);have c3:=a8 aC 0 (.slice G (t.length+1) I);have bb:=dx (i:=0) (u:=.slice G (t.length+1) I) o.own M;have R:=dx (i:=0) (u:=.slice G (t.length+1) I) ct M;have b2:ar (L.setCell ⟨g,0,none⟩ (.slice G (t.length+1) I)) 130 B w.heap.size part D.at_ D.er:=(by obtain⟨⟨x,h1,h2⟩,h3⟩:=cu;exact⟨⟨x,A.heap h1 a3,h2.chg A (fun k hk e=>h2.ne_cells aC (by decide) (by rw [hk,show k=g from e]))⟩,h3⟩);have b7:ah (fun k=>k=g\/base<=k) w (L.setCell ⟨g,0,none⟩ (.slice G (t.length+1) I)):=cv.trans A fun k _ e=>.inl e;have bc:base<=(L.setCell ⟨g,0,none⟩ (.slice G (t.length+1) I)).heap.size:=az c1 A.size;have ev:=ck.out;have c4:Hid ((t++[z]).length<=100000000+(i+1)):=(by show _<=_;simp;omega);have bd:(L.setCell ⟨g,0,none⟩ (.slice G (t.length+1) I)).heap[g]?=some (.cells #[.slice G (t.length+1) I,N size,hv] 315 (0,0)):=c3;have fN:(L.setCell ⟨g,0,none⟩ (.slice G (t.length+1) I)).cell? ⟨g,2,none⟩=some hv:=(by rw [aA bd];rfl);clear c3 A cu cv c1 ct o a6 ap Z q aa a7 c0 K ev;by_cases b8:i=0
       · have k0:(i:Int)=0:=(by omega);have k1:((i:Int) == 0)=true:=(by rw [beq_iff_eq];exact k0);have fP:=ad b8;have ak:=HH.out;have fQ:=di.out b8;have e1:Hid (m.length+[z].length<=2147483648):=(by show _<=_;simp;omega);obtain⟨ha,ga,rfl⟩:=R.shape';clear b8 k0;go_wp2_with (at_builtin;refine cW eS rfl (.tmp 67) (.tmp 69) 107 rfl Tryz.underlying107 base rfl R [z] _ _ _ rfl rfl (show Value.slice (some ⟨L.heap.size,0,none⟩) 1 1=_ by simp [World.setCell]) e1.out bc ?_);intro v9 w9 o;obtain⟨U,V,c5⟩:=o.own.shape';rw [show(m++[z]).length=m.length+1 from by simp]at c5;subst c5;have bk:=o.chg'.heap bd (fun e=>by have:=(R.lt _ e).1;omega);have e5:=af bk 2 rfl;have e6:=al bk 2;have c6:=o.other bb ba;have e2:=o.apart bb ba;have c7:=b2.app R o (by decide) (by decide);have c8:ah (fun k=>k=g\/base<=k) w w9:=b7.trans o.chg' fun k _ e=>.inr (R.lt k e).1;have c9:=az bc o.size;have A:=ao w9 ⟨g,2,none⟩ (.slice U (m.length+1) V);have e7:=a8 bk 2 (.slice U (m.length+1) V);have e8:=dx (i:=2) (u:=.slice U (m.length+1) V) c6 M;have e9:=dx (i:=2) (u:=.slice U (m.length+1) V) o.own M;have eL:ar (w9.setCell ⟨g,2,none⟩ (.slice U (m.length+1) V)) 130 B w.heap.size part D.at_ D.er:=(by obtain⟨⟨x,h1,h2⟩,h3⟩:=c7;exact⟨⟨x,A.heap h1 a3,h2.chg A (fun k hk e=>h2.ne_cells bk (by decide) (by rw [hk,show k=g from e]))⟩,h3⟩);have fa:ah (fun k=>k=g\/base<=k) w (w9.setCell ⟨g,2,none⟩ (.slice U (m.length+1) V)):=c8.trans A fun k _ e=>.inl e;have fb:base<=(w9.setCell ⟨g,2,none⟩ (.slice U (m.length+1) V)).heap.size:=az c9 A.size;clear A c7 c8 c9 c6 o b2 b7 bc bb R ba bd;go_wp2_with fail;go_roundw;case rel=>exact⟨i+1,D,t++[z],m++[z],by omega,by go_num,cq.out,cp.out,c4.out,by rw [aD];show m.length+1<=_;omega,fun h=>by omega,⟨⟨_,_,e7,e8,e9,e2⟩,M⟩,eL,fa,fb,cn.out⟩
         case measure=>simp [intOf];omega
       · have k0:¬(i:Int)=0:=(by omega);have k1:((i:Int) == 0)=false:=(by rw [zh];exact k0);go_wp2_with fail;go_roundw;case rel=>exact⟨i+1,D,t++[z],m,by omega,by go_num,cq.out,cp.out,c4.out,HH.out,fun h=>by omega,⟨⟨_,hv,bd,bb,R,ba⟩,M⟩,b2,b7,bc,cn.out⟩
         case measure=>simp [intOf];omega
     · rw [ae Q]at ab;have ge:¬(D.er:Int)=0:=(by omega);have b9:Hid (F=(t,D.er)):=Y.out.trans ab.out;clear Y ab b1;go_wp2_with fail;refine(a7.out).mono ?_;rintro e w6 ⟨rfl,rfl⟩;go_wp2_with fail;go_ret;rw [b9.out];exact⟨rfl,⟨m,HH.out,aj⟩,ap⟩
  · obtain rfl:i=n:=(by omega);have gg:¬((i:Int)<i):=(by omega);have b9:Hid (F=(t,(d.fin part).er)):=(by show _=_;rw [Y.out,gu];rfl);have fc:=ad (cR.out B _ d wr hC);obtain⟨ec,a5⟩:=hC.cbox;have HD:=ad hD;clear Y q Z aa hD K;go_wp2_with fail;refine(fc.out).mono ?_;rintro e w5 ⟨rfl,a6,O⟩;have aj:=HD.out.beside a5 (by decide) a3 O;have ap:=bs.trans (G':=fun k=>k=B) O fun k _ e=>.inr (by have e:k=B:=e;omega);go_wp2_with fail;go_ret;rw [b9.out];exact⟨rfl,⟨m,ak,aj⟩,ap⟩
theorem Dc(part:List UInt8)(k:Nat):∀ (i:Nat) (d:Cs) (t:List (List UInt8)),(∀ x∈t,x.length<=25)->(∀ x∈(gk part k i d t).1,x.length<=25)/\(gk part k i d t).1.length<=t.length+k:=by
 induction k with
 | zero=>intro i d t h;exact⟨h,am _⟩
 | succ k o=>
  intro i d t h;rw [gk];split
  · rename_i q;have m := o (i + 1) (iQ d part (t.getLastD []) (decide (i = 0))) (t ++ [lD d part (t.getLastD []) (decide (i = 0))]) (fun x e => by
     rcases iZ.1 e with e | e;· exact h x e
     · rw [lT.1 e]; exact BP _ _ _ _ q)
    rw [aD]at m;simp only [lg]at m;exact⟨m.1,by omega⟩
  · exact⟨h,by show t.length<=_;omega⟩
theorem Hc(s:Cs)(l:List UInt8)(k:Nat):(s.take l k).1.length<=l.length:=by
 unfold Cs.take;split
 · split;· exact an _
   · show((l.drop s.at_).take k).length<=_;rw [aG,aU];omega
 · exact an _
theorem OA(b:List UInt8)(size n:Nat)(l:List Nat)(i:Nat)(s:Cs)(t:List (List UInt8))(h:i<l.length):fq b size n (l.drop i) i s t=if(s.take b l[i]).2.er=0 then(if(gk (s.take b l[i]).1 (min size (n - i*size)) 0 ⟨0,0⟩ t).2=0 then fq b size n (l.drop (i+1)) (i+1) (s.take b l[i]).2 (gk (s.take b l[i]).1 (min size (n - i*size)) 0 ⟨0,0⟩ t).1 else([],(s.take b l[i]).2,(gk (s.take b l[i]).1 (min size (n - i*size)) 0 ⟨0,0⟩ t).2))else([],(s.take b l[i]).2,(s.take b l[i]).2.er):=by
 rw [ip h,fq]
theorem ar.under{w d:World}{B base n m g:Nat}{T:TypeId}{l:List UInt8}(h:ar w T B base l n m)(F:B<g)(o:ah (fun k=>k=g\/g+1<=k) w d):ar d T B base l n m:=by
 obtain⟨⟨x,z,q⟩,A⟩:=h;exact⟨⟨x,o.heap z (fun e=>by omega),q.chg o (fun k D e=>by have:=q.top k D;omega)⟩,A⟩
theorem Hn(b:List UInt8)(k:Nat)(s:Cs)(l:List Nat)(h:¬s.er=0):fR b k s l=(l,s):=by
 cases k with
 | zero=>rfl
 | succ k=>rw [fR,ae h]
theorem Ar(b:List UInt8)(k:Nat):∀ (s:Cs) (l:List Nat),(fR b k s l).1.length<=l.length+k:=by
 induction k with
 | zero=>intro s l;exact am _
 | succ k d=>
  intro s l;rw [fR];split;· have:=d (s.int b 2000).2 (l++[(s.int b 2000).1]);rw [aD]at this;simp at this;omega
  · show l.length<=_;omega
theorem P8(n size j:Nat)(h:1<=size):j<(n+size - 1) / size↔j*size<n:=by
 rw [Nat.lt_iff_add_one_le,vu (by omega),iGQb];omega
theorem S0 (size : Nat) (h1 : 1 ≤ size) (h2 : size ≤ 64) (v : Value) (b : List UInt8) (w : World) (z : ai w eB v b) (hl : b.length ≤ 1000000) :
    Calls Tryz.prog 172 #[N size,v] w fun e w'=>∃ pv,e=.returned (.tuple #[pv,N (co size b).2.1,.int .i64 ((co size b).2.2:Int)])/\Fr w w'/\((co size b).2.2=0->∃ g base z,pv=.pointer (some ⟨g,0,none⟩)/\w.heap.size<=g/\kB w' g base size (co size b).1 z):=by
  have cl:=ad (m8 v b w z hl);have bu:=ad (fun dv hm B base s W h=>nR dv hm B base s b W h hl);have bv:=ad (fun B base n er W h=>iE B base n er b W h);have d1:=ad (fun B base n er W h=>qb B base n er b W h);have d2:=ad (fun B base k s W h hb=>sX B base k s b W h hl hb);have HR:Hid (co size b=if(fq b size (dA b).1 (fR b (((dA b).1+size - 1) / size) (dA b).2 []).1 0 (fR b (((dA b).1+size - 1) / size) (dA b).2 []).2 []).2.2=0 then((fq b size (dA b).1 (fR b (((dA b).1+size - 1) / size) (dA b).2 []).1 0 (fR b (((dA b).1+size - 1) / size) (dA b).2 []).2 []).1,(fq b size (dA b).1 (fR b (((dA b).1+size - 1) / size) (dA b).2 []).1 0 (fR b (((dA b).1+size - 1) / size) (dA b).2 []).2 []).2.1.at_,0)else([],0,(fq b size (dA b).1 (fR b (((dA b).1+size - 1) / size) (dA b).2 []).1 0 (fR b (((dA b).1+size - 1) / size) (dA b).2 []).2 []).2.2)):=rfl;have HN:Hid (dA b=(⟨0,0⟩:Cs).int b 1048576):=rfl;have b0:(dA b).1<=1048576:=by
    show Cs.val _ _<=_;unfold Cs.val;split;· rename_i h;exact(lH _ _ h.2).2.2
    · exact an _
  generalize co size b=R at *;generalize d4:dA b=DN at *;obtain⟨n,s0⟩:=DN;have hn:n<=1048576:=b0;have hK:=Ar b ((n+size - 1) / size) s0 [];have cq:=P8 n size;obtain⟨Z,hZ⟩:∃ Z,Z=fR b ((n+size - 1) / size - 0) s0 []:=⟨_,rfl⟩;have b2:Hid (R=if(fq b size n Z.1 0 Z.2 []).2.2=0 then((fq b size n Z.1 0 Z.2 []).1,(fq b size n Z.1 0 Z.2 []).2.1.at_,0)else([],0,(fq b size n Z.1 0 Z.2 []).2.2)):=(by rw [hZ];exact HR.out);have b3:Z.1.length<=(n+size - 1) / size:=(by rw [hZ];simpa using hK);have HZ:=ad hZ;have b4:=ad (cq · h1);have fv:(n+size - 1) / size<=1048640:=az (lR _ _) (by omega);clear hZ hK cq b0 HR d4;generalize (n+size - 1) / size=K at *;have z1:¬(size:Int)<1:=(by omega);have z2:¬(64:Int)<size:=(by omega);obtain⟨a0,f3,rfl,_⟩:=z.shape;clear z;go_enter Tryz.func172, Tryz.ntmps172;go_wp2_with fail;refine(cl.out).mono ?_;rintro e M ⟨B,rfl,hC,ct,hB⟩;have b6:=ad (bu.out 1048576 (by omega) B _ ⟨0,0⟩ M hC);rw [<- HN.out]at b6;have f5:=hC.lt;have d6:=ct.size;clear cl hC;go_wp2_with fail;refine(b6.out).mono ?_;rintro e w2 ⟨rfl,cu,b7⟩;have cv:Fr w w2:=((ct.chg (fun b=>b=B)).trans b7 fun _ _ h=>h).fr (fun k hk e=>by omega);have d8:=b7.size;clear b6 b7;go_upto_block 0 with fail;go_cut [9,10]from 28 to 44 (fun zv _ wx=>∃ (l:List Nat) (s:Cs),Z=(l,s)/\Ow wx M.heap.size eJ zv l/\ar wx 130 B w.heap.size b s.at_ s.er/\Fr w wx/\M.heap.size<=wx.heap.size)
  case first=>
    go_wp2_with fail;go_loopw [9,10] (fun zv av wr=>∃ (j G:Nat) (s:Cs) (l:List Nat),j<=K/\l.length=j/\av=N G/\G<=n+64/\Hid (G=j*size)/\Ow wr M.heap.size eJ zv l/\ar wr 130 B w.heap.size b s.at_ s.er/\Fr w wr/\M.heap.size<=wr.heap.size/\Hid (Z=fR b (K - j) s l)) (fun _ av _=>n - (intOf av).toNat);case atStart=>exact⟨0,0,s0,[],an _,rfl,rfl,by omega,by show 0=_;simp,Ow.nil,cu,cv,d8,HZ.out⟩
    case round=>
      clear cu cv HZ;obtain⟨j,G,s,l,hj,a2,rfl,f6,bA,m,hC,A,O,Y⟩:=hrel;have c0:=ad a2;obtain⟨za,zc,c1⟩:=m.shape';rw [a2]at c1;subst c1;clear a2;have bb:=ad (bv.out B _ s.at_ s.er wr hC);by_cases bc:G<n
      · have i1:(G:Int)<n:=(by omega);have bR:j<K:=(b4.out j).2 (by rw [<- bA.out];exact bc);by_cases d:s.er=0
        · have a3:Hid (Z=fR b (K - (j+1)) (s.int b 2000).2 (l++[(s.int b 2000).1])):=(by show _=_;rw [Y.out,show K - j=(K - (j+1))+1 by omega,fR,ag d]);have HI:=ad (bu.out 2000 (by omega) B _ s wr hC);rw [d]at bb;have d9:Hid (l.length+[(s.int b 2000).1].length<=2147483648):=(by have:=c0.out;show _<=_;simp;omega);obtain⟨dE,aa⟩:=hC.cbox;have Q:=ad m;have dT:G+size<=n+64:=(by omega);have ec:Hid (G+size=(j+1)*size):=(by show _=_;rw [bA.out,iGQb]);clear m hC d Y;generalize (s.int b 2000).1=x at *;generalize (s.int b 2000).2=o at *;go_wp2_with fail;refine(bb.out).mono ?_;rintro e U ⟨rfl,rfl⟩;go_wp2_with fail;refine(HI.out).mono ?_;rintro e U ⟨rfl,a4,I⟩;have ab:=Q.out.chg I (fun i hi e=>Q.out.ne_cells aa (by decide) (by rw [hi,show i=B from e]));have a5:Fr w U:=((A.chg (fun b=>b=B)).trans I fun _ _ h=>h).fr (fun k hk e=>by omega);have a6:=az O I.size;clear bb HI Q aa I;go_wp2_with (at_builtin;refine cW eJ rfl (.tmp 39) (.tmp 42) 60 rfl Tryz.underlying60 M.heap.size rfl ab [x] _ _ _ rfl rfl rfl d9.out a6 ?_);intro v4 w4 bd;have ef:=a4.app ab bd (by decide) (by decide);have eq:=bd.below ab a5 d6 a5.size;have es:=az a6 bd.size;have a2:=c0.out;go_wp2_with fail;go_roundw;case rel=>exact⟨j+1,G+size,o,l++[x],by omega,by rw [aD,a2];rfl,by go_num,dT,ec.out,bd.own,ef,eq,es,a3.out⟩
          case measure=>simp [intOf];omega
        · have a3:Hid (Z=(l,s)):=(by show _=_;rw [Y.out,Hn _ _ _ _ d]);have c6:¬(s.er:Int)=0:=(by omega);clear Y;go_wp2_with fail;refine(bb.out).mono ?_;rintro e U ⟨rfl,rfl⟩;go_wp2_with fail;go_meet;exact⟨l,s,a3.out,m,hC,A,O⟩
      · have bR:j=K:=by
          rcases ti j K with h | h;· have:=(b4.out j).1 h;rw [<- bA.out]at this;omega
          · omega
        have a3:Hid (Z=(l,s)):=(by show _=_;rw [Y.out,bR,gu];rfl);have i1:¬(G:Int)<n:=(by omega);clear Y bR hj;go_wp2_with fail;go_meet;exact⟨l,s,a3.out,m,hC,A,O⟩
  case rest=>
    obtain⟨l,s,c7,m,hC,A,O⟩:=hcut;rw [c7]at b2 b3;have f9:l.length<=K:=b3;obtain⟨za,zc,rfl⟩:=m.shape';have ev:∀ k,(Value.slice za l.length zc).ownBlock=some k->k<wc.heap.size:=fun k hk=>(m.lt k hk).2;have c8:(wc.alloc (.cells #[.slice none 0 0,N size,.slice none 0 0] 315)).heap[wc.heap.size]?=some (.cells #[.slice none 0 0,N size,.slice none 0 0] 315 (0,0)):=a9 _ _ _ rfl;have bf:Fr wc (wc.alloc (.cells #[.slice none 0 0,N size,.slice none 0 0] 315)):=(Fr.refl wc).alloc _;have c9:wc.heap.size+1<=(wc.alloc (.cells #[.slice none 0 0,N size,.slice none 0 0] 315)).heap.size:=(by simp);have e0:B<wc.heap.size:=hC.lt;have e1:w.heap.size<=wc.heap.size:=A.size;have cA:=m.fr bf;have cB:=hC.fr bf;have cE:=A.trans bf;obtain⟨D,bT⟩:∃ D,D=fq b size n (l.drop 0) 0 s []:=⟨_,rfl⟩;have J:Hid (R=if D.2.2=0 then(D.1,D.2.1.at_,0)else([],0,D.2.2)):=(by rw [bT];exact b2.out);have HD:=ad bT;clear bT b2 c7 b3 m hC A O HN bu;go_wp2_with fail;generalize wc.alloc (.cells #[.slice none 0 0,N size,.slice none 0 0] 315)=W0 at *;generalize wc.heap.size=g at *;have cG:kB W0 g (g+1) size [] []:=⟨⟨_,_,c8,Ow.nil,Ow.nil,.inl rfl⟩,by omega⟩;go_loopw [49] (fun iv wr=>∃ (i:Nat) (s:Cs) (t z:List (List UInt8)),i<=l.length/\iv=N i/\Hid (∀ x∈t,x.length<=25)/\t.length<=i*64/\z.length<=i/\kB wr g (g+1) size t z/\Ow wr M.heap.size eJ (.slice za l.length zc) l/\ar wr 130 B w.heap.size b s.at_ s.er/\Fr w wr/\g+1<=wr.heap.size/\Hid (D=fq b size n (l.drop i) i s t)) (fun iv _=>l.length - (intOf iv).toNat);case atStart=>exact⟨0,s,[],[],an _,rfl,(show ∀ x∈([]:List (List UInt8)),x.length<=25 from fun x hx=>(gz hx).elim),an _,an _,cG,cA,cB,cE,c9,HD.out⟩
    case round=>
      clear cG cA cB cE c9 HD c8 bf;obtain⟨i,s,t,z,hi,rfl,cL,fB,fC,hD,m,hC,A,O,ac⟩:=hrel;by_cases bc:i<l.length
      · have cN:=(b4.out i).1 (by omega);have V:=ad (OA b size n l i s t bc);obtain⟨b5,o5,p5,e8,e5⟩:=m.see.cell1 N rfl i bc;cases e8;have e6:wr.cell? ⟨b5,o5+i,none⟩=some (N l[i]):=e5;have cT:=ad (d2.out B _ l[i] s wr hC (by omega));have fN:=Hc s b l[i];have da:min size (n - i*size)<=64:=(by omega);have cb:=ad (fun part=>Dc part (min size (n - i*size)) 0 ⟨0,0⟩ t cL.out);obtain⟨q,hq⟩:∃ q,q=i*size:=⟨_,rfl⟩;rw [<- hq]at cN V da cb;have fP:IntKind.i64.wrap ((i:Int)*size)=(q:Int):=(by rw [show(i:Int)*size=((i*size:Nat):Int) by simp,hq];exact aw _ (by omega));have fQ:IntKind.i64.wrap ((n:Int) - q)=((n - q:Nat):Int):=(by rw [aw _ (by omega)];omega);have fS:=ad hq;clear hq;obtain⟨dE,aa⟩:=hC.cbox;have i1:(0:Int)<=i:=(by omega);have i2:(i:Int)<l.length:=(by omega);have Q:=ad m;have dc:=ad hD;clear e5 m hC hD;generalize (s.take b l[i]).1=part at *;generalize (s.take b l[i]).2=o at *;generalize l[i]=k at *;go_wp2_with fail;refine(cT.out).mono ?_;rintro e U ⟨pv,rfl,cc,a4,I⟩;have di:=dc.out.beside aa (by decide) (by omega) I;have ab:=Q.out.chg I (fun j hj e=>Q.out.ne_cells aa (by decide) (by rw [hj,show j=B from e]));have a5:Fr w U:=((A.chg (fun b=>b=B)).trans I fun _ _ h=>h).fr (fun k hk e=>by omega);have a6:=az O I.size;have L:=ad (bv.out B _ o.at_ o.er U a4);obtain⟨pa,pc,rfl⟩:=cc.shape';clear cT Q dc aa I e6;by_cases d:o.er=0
        · rw [ag d]at V;rw [d]at L;have cf:=ad (NJ g (g+1) size (min size (n - q)) _ part t z U di cc.see (by omega) (by omega) cL.out (by omega) (by omega) a6);have ch:=cb.out part;obtain⟨mm,dj⟩:∃ mm,mm=min size (n - q):=⟨_,rfl⟩;rw [<- dj]at V cf ch da;have ge:=ad d;generalize n - q=ns at *;have gg:min (size:Int) (ns:Int)=(mm:Int):=(by omega);generalize gk part mm 0 ⟨0,0⟩ t=F at *;have aj:=ad (ac.out.trans V.out);clear ac V cb d dj cN;go_wp2_with fail;refine(L.out).mono ?_;rintro e w4 ⟨rfl,rfl⟩;go_wp2_with fail;refine(cf.out).mono ?_;rintro e w5 ⟨rfl,⟨fb,gi,fc⟩,a7⟩;have fe:=a4.under e0 a7;have fh:=ab.chg a7 (fun j hj e=>by have:=ev j hj;omega);have dr:Fr w w5:=((a5.chg (fun k=>k=g\/g+1<=k)).trans a7 fun _ _ h=>h).fr (fun k hk e=>by omega);have fk:=az a6 a7.size;clear L cf di ab cc a4 a7;by_cases hF:F.2=0
          · have ak:Hid (D=fq b size n (l.drop (i+1)) (i+1) o F.1):=(by show _=_;rw [aj.out,ag hF]);have cj:((F.2:Nat):Int)=0:=(by omega);rw [cj];clear hF cj aj;go_wp2_with fail;go_roundw;case rel=>exact⟨i+1,o,F.1,fb,by omega,by go_num,ch.1,by have:=ch.2;omega,by omega,fc,fh,fe,dr,fk,ak.out⟩
            case measure=>simp [intOf];omega
          · have ak:Hid (D=([],o,F.2)):=(by show _=_;rw [aj.out,ae hF]);have X:Hid (R=([],0,F.2)):=(by show _=_;rw [J.out,ak.out,ae hF]);have cj:¬(F.2:Int)=0:=(by omega);have fl:=ad hF;clear aj J hF;go_wp2_with fail;go_ret3;rw [X.out];exact⟨_,rfl,dr,fun h=>absurd h fl.out⟩
        · have aj:Hid (D=([],o,o.er)):=(by show _=_;rw [ac.out,V.out,ae d]);have X:Hid (R=([],0,o.er)):=(by show _=_;rw [J.out,aj.out,ae d]);have c6:¬(o.er:Int)=0:=(by omega);clear ac V J;go_wp2_with fail;refine(L.out).mono ?_;rintro e w4 ⟨rfl,rfl⟩;go_wp2_with fail;go_ret3;rw [X.out];exact⟨_,rfl,a5,fun h=>absurd h d⟩
      · obtain rfl:i=l.length:=(by omega);have b0:¬((l.length:Int)<l.length):=(by omega);have ak:Hid (D=(t,s,s.er)):=(by show _=_;rw [ac.out,qk,fq]);have L:=ad (bv.out B _ s.at_ s.er wr hC);have fm:=ad (d1.out B _ s.at_ s.er wr hC);clear ac m hC;by_cases d:s.er=0;· have X:Hid (R=(t,s.at_,0)):=(by show _=_;rw [J.out,ak.out,ag d]);rw [d]at L;clear J d;go_wp2_with fail;refine(L.out).mono ?_;rintro e w4 ⟨rfl,rfl⟩;go_wp2_with fail;refine(fm.out).mono ?_;rintro e w4 ⟨rfl,rfl⟩;go_wp2_with fail;go_ret3;rw [X.out];exact⟨_,rfl,A,fun _=>⟨g,g+1,z,rfl,e1,hD⟩⟩
        · have X:Hid (R=([],0,s.er)):=(by show _=_;rw [J.out,ak.out,ae d]);have c6:¬(s.er:Int)=0:=(by omega);clear J;go_wp2_with fail;refine(L.out).mono ?_;rintro e w4 ⟨rfl,rfl⟩;go_wp2_with fail;go_ret3;rw [X.out];exact⟨_,rfl,A,fun h=>absurd h d⟩
end Go.Proofs.YtfpijnhhdfoohaaGreatDoor
