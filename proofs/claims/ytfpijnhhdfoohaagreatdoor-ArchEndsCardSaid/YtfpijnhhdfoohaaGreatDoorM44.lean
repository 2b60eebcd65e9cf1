/- Parts of the proof of ArchEnds: P1 P2 P3 P4 P5. -/
import Derived.Laws.Tables
import Derived.Lib.ItoaNum
import Derived.Maps.GroupsBeside
import Derived.Sort.KeysCollected
import Derived.StringKeys
import Derived.Test.YtfpijnhhdfoohaaGreatDoorIter
import Derived.Test.YtfpijnhhdfoohaaGreatDoorM43
import Derived.Test.YtfpijnhhdfoohaaGreatDoorM22
import Derived.Test.YtfpijnhhdfoohaaGreatDoorM01
import Derived.Test.YtfpijnhhdfoohaaGreatDoorM12
import Derived.Test.YtfpijnhhdfoohaaGreatDoorM14
import Derived.Test.YtfpijnhhdfoohaaGreatDoorM11
set_option linter.unusedVariables false
set_option linter.unusedSectionVars false
set_option linter.unusedSimpArgs false
set_option maxHeartbeats 8000000
set_option maxRecDepth 100000
namespace Go.Fk
abbrev znQb:=@List.getElem_cons_zero
end Go.Fk
namespace Go.Proofs.YtfpijnhhdfoohaaGreatDoor
open Go.RowKit Go.Fk
def oI:au Tryz.prog Hd:=⟨60,1,24,⟨none,0,0⟩,.slice none 0 0,fun h=>[h.v],by kernel_rfl,by decide,by decide,by simp [Value.cells],fun _=>rfl,by intro x u d;simp at d;subst d;rfl⟩
def SX(size d:Nat)(ts:List (List UInt8))(e:List (List Nat)):List UInt8:=OG size ts++Bz d e
structure Tr (bound:Nat) (ts:List (List UInt8)) (ls:List (List Nat)):Prop where
 txt:Gs ts
 len:ts.length<=10000
 same:ls.length=ts.length
 ne:∀ q∈ls,q≠[]
 ris:∀ q∈ls,Bf bound 0 q=true
 bnd:bound<=20000
 sum:(Bz bound ls).length<=400000
def aF.ts(r:aF):TS:=⟨r.text,r.source⟩
def oH(L:List TS):List (List Nat):=(iT L).map (cx L)
abbrev pO(d e:Value):Obj:=.cells #[d,e] 110 (0,0)
end Go.Proofs.YtfpijnhhdfoohaaGreatDoor
namespace Go.Proofs.YtfpijnhhdfoohaaGreatDoor
open Go.RowKit Go.Fk Go.ChangeShapes
def py(d:List Nat):DataW Unit:=if d=[]then .nil else .slice (lits .i64 (d.map Int.ofNat)) []
structure DI (D:DataW Unit) (f:List UInt8->List Nat):Prop where
 map:Maps.IsMap D
 row:∀ s,D.atKey (.string s) .nil=py (f s)
 has:∀ s,Maps.has D (.string s)=true↔f s≠[]
theorem DI.empty:DI (.map []) (fun _=>[]):=⟨Maps.isMap_empty,fun _=>rfl,fun _=>by simp [Maps.has]⟩
theorem DI.put{D:DataW Unit}{f:List UInt8->List Nat}(h:DI D f)(t:List UInt8)(d:List Nat)(o:d≠[]):DI (D.put (.string t) (py d)) (fun s=>if s=t then d else f s):=by
 have m:WideAt.IsKeyLit (.string t):=trivial;refine⟨h.map.put _ _,fun s=>?_,fun s=>?_⟩
 · by_cases e:s=t;· subst e;rw [Maps.atKey_put_same h.map m,ag rfl]
   · rw [Maps.atKey_put_other (by simpa using e),ae e];exact h.row s
 · by_cases e:s=t;· subst e;rw [Maps.has_put_same h.map m,ag rfl];simp [o]
   · rw [Maps.has_put_other (by simpa using e),ae e];exact h.has s
theorem Mh{a b:List Int}(h:(lits .i64 a:List (DataW Unit))=lits .i64 b):a=b:=by
 refine(List.map_inj_right (fun x y d=>?_)).1 h;simpa using d
theorem DI.look{D:DataW Unit}{f:List UInt8->List Nat}(h:DI D f){t:List UInt8}{w:World}{base:Nat}{e:TypeId}{v:Value}{m:List Int}(d:D.atKey (.string t) .nil=rowDatum .i64 v m)(q:w.ownsInts base e .i64 v m):m=(f t).map Int.ofNat:=by
 rw [h.row t]at d;unfold py at d;rcases q.datum (H:=Unit)with⟨o,z⟩ | o
 · rw [o]at d;split at d;· rename_i A;rw [A,z];rfl
   · cases d
 · rw [o]at d;split at d;· cases d
   · simp only [DataW.slice.injEq,nU]at d;exact(Mh d).symm
theorem DH(l:List Nat):eJ.cells l=l.map N:=by
 induction l with
 | nil=>rfl
 | cons x l d=>show [N x]++eJ.cells l=_;rw [d];rfl
theorem Ci(l:List Nat):(l.map Int.ofNat).map (Value.int .i64)=l.map N:=by rw [nZ];rfl
theorem CH{w:World}{base:Nat}{v:Value}{l:List Nat}(h:w.ownsInts base 3 .i64 v (l.map Int.ofNat)):Ow w base eJ v l:=by
 have:=h.1;rw [eN,Ci]at this;unfold Ow;rw [DH];exact this
theorem K4{w:World}{base:Nat}{v:Value}{l:List Nat}(h:Ow w base eJ v l)(d:∀ x∈l,x<1000000000):w.ownsInts base 3 .i64 v (l.map Int.ofNat):=by
 refine⟨?_,fun z e=>?_⟩;· unfold Ow at h;rw [DH]at h;rw [eN,Ci];exact h
 · obtain⟨x,m,rfl⟩:=g6.1 e;have:=d x m;show(decide (IntKind.i64.min<=Int.ofNat x) && decide (Int.ofNat x<=IntKind.i64.max))=true;have o:IntKind.i64.min=-9223372036854775808:=rfl;have q:IntKind.i64.max=9223372036854775807:=rfl;rw [o,q,bt (by simp only [Int.ofNat_eq_natCast];omega),bt (by simp only [Int.ofNat_eq_natCast];omega)];rfl
theorem Jp{w:World}{base:Nat}{v:Value}{l:List Nat}(h:w.ownsInts base 3 .i64 v (l.map Int.ofNat))(d:l≠[]):rowDatum (H:=Unit) .i64 v (l.map Int.ofNat)=py l:=by
 rw [h.datum_pos (by simpa using d)];unfold py;rw [ae d]
theorem N0{w d:World}(h:Fr w d)(e:Option Nat):w.grownBy d e:=⟨Below.os h,Below.tape h,Below.output h,Below.size h,fun k m _=>Below.block h k m⟩
theorem ye{w d:World}{k:TypeId}{base b n:Nat}{D:DataW Unit}(h:w.ownsGroups Tryz.prog k base 3 .i64 b n D)(e:Fr w d):d.ownsGroups Tryz.prog k base 3 .i64 b n D:=
 h.kept (N0 e none) (by simp) (fun _ _ _ x _=>by cases x.val.ownBlock <;> simp)
theorem wn:Maps.Keyed Tryz.prog 9:=Maps.string_keyed Tryz.underlying9
theorem zt(w:World):(zeroValue 60).run Tryz.prog w=.ok (.slice none 0 0) w:=by kernel_rfl
theorem CB(s:List UInt8)(h:s.length<=maxLen):keyOf Tryz.prog 9 (S s)=some (.string s):=Go.WideMaps.keyOf_string_mk Tryz.underlying9 (by simpa [ByteArray.size] using h)
theorem M9{w:World}{R:Value->Option (DataW Unit × List MemPlace)}{b n:Nat}{D:DataW Unit}{f:List UInt8->List Nat}(hD:DI D f)(q:w.ownsMap Tryz.prog 9 R b n D){T:List (List UInt8)}(h:kY T)(z:∀ s,s∈T↔f s≠[]){m:List (List UInt8)}(A:m.Perm (strKeys D)) :
  m.mergeSort (fun x y=>decide (x<=y))=T:=by
 have B:T.Nodup:=h.imp fun {a b} d e=>by subst e;exact rz _ d
 have F:Collected D (fun _=>false) T:=⟨B,fun x=>by rw [z x,hD.has x];simp⟩;have G:=A.trans (F.perm q wn Tryz.underlying9 (fun _=>rfl)).symm;have o:=mergeSort_of_perm G;have I:T.mergeSort leB=T:=by refine List.mergeSort_of_pairwise (h.imp fun {a b} d=>?_);simp only [leB,fx];exact List.le_of_lt d
 rw [I]at o;exact o
end Go.Proofs.YtfpijnhhdfoohaaGreatDoor
namespace Go.Proofs.YtfpijnhhdfoohaaGreatDoor
open Go.RowKit Go.Fk
theorem S7 (v : Value) (l : List aF) (w : World) (d : ai w eR v l) (hl : l.length ≤ 20000) (hb : ∀ r ∈ l, r.text.length ≤ 100000 ∧ r.source.length ≤ 100000) (hw : bj (fun r : TS => r.text.length + r.source.length) (l.map aF.ts) ≤ 1048576) :
    Calls Tryz.prog 67 #[v] w fun e w'=>∃ tv lv d,e=.returned (.agg #[tv,lv])/\ai w' eS tv (iT (l.map aF.ts))/\dl w' oI eJ lv d (oH (l.map aF.ts))/\Fr w w':=by
  obtain⟨a0,l4,rfl,l5,hV,hW⟩:=d.shape;unfold maxLen at hV;have fb:=ad (fun W (h:Fr w W) k hk=>pA (d.fr h) k hk);have HB:=ad hb;have fe:=ad (fun r W (z:r.text.length<=1000000) (B:r.source.length<=1000000)=>QJ r W z B);have fh:(l.map aF.ts).length=l.length:=eN _;have fk:=ad fh;have hY:Hid (∀ k (h:k<l.length) (B:k<(l.map aF.ts).length),(l.map aF.ts)[k]=l[k].ts):=fun k h B=>by simp
  have HW:Hid (∀ k,bj (fun r:TS=>r.terms.length) ((l.map aF.ts).take k)<=1048576):=fun k=>
    az (zF _ _ _ (fun r _=>Ah r)) (az (zE _ _ k) hw)
  have fl:=ad (fun k h=>vN (fun r:TS=>r.terms.length) (l.map aF.ts) k h);have fm:=ad (fun t k h=>MU (l.map aF.ts) t k h);have fn:=ad (az (MS (l.map aF.ts)) hw);have fr:=ad (fun s=>CL (l.map aF.ts) s);have hZ:=@run_makeMap Tryz.prog;have cc:=ad (World.ownsGroups_made (H:=Unit) (w.alloc (.cells #[.slice none 0 0,.slice none 0 0] 110)) Tryz.prog 9 3 .i64);clear d hb hw hW fh;generalize l.map aF.ts=L at *;go_enter Tryz.func67, Tryz.ntmps67;go_upto_region 2 with fail;have fv:(w.alloc (.cells #[.slice none 0 0,.slice none 0 0] 110)).heap.size=w.heap.size+1:=eg _ _;rw [fv]at cc;have a7:Fr w (w.alloc (.cells #[.slice none 0 0,.slice none 0 0] 110)):=(Fr.refl w).alloc _;have g0:=a9 w (.cells #[.slice none 0 0,.slice none 0 0] 110) w.heap.size rfl;generalize w.alloc (.cells #[.slice none 0 0,.slice none 0 0] 110)=A1 at *;have dr:Fr A1 (A1.alloc (.map #[] 0)):=(Fr.refl A1).alloc _;have ds:=dr.heap g0;have f1:Fr w (A1.alloc (.map #[] 0)):=a7.trans dr;generalize A1.alloc (.map #[] 0)=A2 at *;obtain⟨R,hR⟩:∃ R,R=w.heap.size:=⟨_,rfl⟩;rw [<- hR]at ds cc;have bc:=ad hR;rw [<- hR];clear a7 dr g0 fv hZ hR;have f2:DI (.map []) (fun s=>cx (L.take 0) s):=(by have:(fun s=>cx (L.take 0) s)=fun _=>([]:List Nat):=(by funext s;simp [cx]);rw [this];exact DI.empty);go_wp2_with fail;go_loopw [14] (fun iv wr=>∃ (i n:Nat) (D:DataW Unit),i<=l.length/\iv=N i/\wr.heap[R]?=some (pO (.slice none 0 0) (.slice none 0 0))/\wr.ownsGroups Tryz.prog 9 (R+1+1) 3 .i64 (R+1) n D/\Hid (DI D (fun s=>cx (L.take i) s))/\Hid (n<=bj (fun r:TS=>r.terms.length) (L.take i))/\Fr w wr) (fun iv _=>l.length - (intOf iv).toNat);case atStart=>exact⟨0,0,_,an _,rfl,ds,cc.out,f2,an _,f1⟩
  case round=>
    clear ds cc f1 f2;obtain⟨i,n,D,hi,rfl,K,M,d1,HN,G⟩:=hrel;by_cases cj:i<l.length
    · obtain⟨b,mb,mc,hv,c0,c1,c2,c3⟩:=fb.out wr G i cj;cases hv;have ij:=HB.out _ (bX cj);have d2:i<L.length:=(by rw [fk.out];exact cj);have e1:=hY.out i cj d2;have d3:=ad (fl.out i d2);have f3:=ad (fun t=>fm.out t i d2);rw [e1]at d3 f3;have me:=HW.out (i+1);have bd:=ad (fe.out l[i] (wr.alloc (.cells #[.int .u64 l[i].time.toNat,Fk.u8 l[i].level,S l[i].source,S l[i].text] 40)) (by omega) (by omega));have f5:Hid (om l[i].text l[i].source=l[i].ts.terms):=rfl;rw [f5.out]at bd;have i0:Hid (kY l[i].ts.terms):=GV _ _;have i3:=ad (Ai l[i].ts);clear e1 f5 ij;generalize f7:bj (fun r:TS=>r.terms.length) (L.take (i+1))=f9 at *;have i4:=ad f7;clear f7;have cm:Hid (n<=f9 - l[i].ts.terms.length/\l[i].ts.terms.length<=f9):=(by have z:=HN.out;have B:=d3.out;show _/\_;omega);clear HN d3;generalize l[i].ts.terms=o at *;have mg:o.length<=1048576:=(by have:=cm.out;omega);generalize l[i]=r at *;have i1:(0:Int)<=i:=(by omega);have i2:(i:Int)<l.length:=(by omega);have d4:R+1+1<=wr.heap.size:=(aM.1 (show wr.heap[R+1]?=_ from(Classical.choose_spec (Classical.choose_spec M)).1)).1;go_wp2_with fail;refine bd.out.mono ?_;rintro e w3 ⟨mk,rfl,bf,aj⟩;obtain⟨ta,tc,rfl⟩:=bf.shape';have a7:Fr wr (wr.alloc (.cells #[.int .u64 r.time.toNat,Fk.u8 r.level,S r.source,S r.text] 40)):=(Fr.refl wr).alloc _;have fB:=bf.rebase (b:=R+1+1) (az d4 a7.size);have fC:=(a7.trans aj).heap K;have fD:=ye M (a7.trans aj);have fN:=G.trans (a7.trans aj);clear bf K M G a7 bd aj c0 c1 c2 c3;go_wp2_with fail;go_loopw [22] (fun kv O=>∃ (k n2:Nat) (D2:DataW Unit),k<=o.length/\kv=N k/\O.heap[R]?=some (pO (.slice none 0 0) (.slice none 0 0))/\O.ownsGroups Tryz.prog 9 (R+1+1) 3 .i64 (R+1) n2 D2/\Hid (DI D2 (fun s=>cx (L.take i) s++if s∈o.take k then [i]else []))/\Hid (n2<=n+k)/\Ow O (R+1+1) eS (.slice ta o.length tc) o/\Fr w O) (fun kv _=>o.length - (intOf kv).toNat);case atStart=>exact⟨0,n,D,an _,rfl,fC,fD,by have:=d1.out;simpa using ad this,am _,fB,fN⟩
      case round=>
        clear fC fD fB fN;obtain⟨k,n2,D2,hk,rfl,K,M,cp,cq,bf,G⟩:=hrel;by_cases ba:k<o.length
        · obtain⟨b2,fQ,i5,d5,d0⟩:=AG bf.see k ba;cases d5;have i6:=(i3.out o[k] (bX ba)).2;have fS:o[k] ∉ o.take k:=fun h=>(by obtain⟨q,F,he⟩:=List.mem_iff_getElem.1 h;rw [oV]at he;rw [aG]at F;have:=vA.1 i0.out q k (by omega) ba (by omega);rw [he]at this;exact rz _ this);have ga:Hid (∀ s,s∈o.take (k+1)↔s∈o.take k\/s=o[k]):=fun s=>(by rw [gy ba,iZ,lT]);have d7:=CB o[k] (by unfold maxLen;omega);have i7:n2<maxLen:=(by have:=cq.out;have:=cm.out;unfold maxLen;omega);have i8:=ad fS;clear fS;generalize o[k]=x at *;have k1:(0:Int)<=k:=(by omega);have k2:(k:Int)<o.length:=(by omega);go_wp2_with (at_lookup;refine wpList_lookup_groups _ rfl _ _ 159 rfl 9 60 3 .i64 wn Tryz.underlying159 (zt _) (R+1+1) (R+1) n2 D2 rfl M i7 _ _ rfl d7 ?_);intro v zs b7 bm cs cu;have c4:=cp.out.look b7 bm;rw [ae i8.out,gq]at c4;have gb:Hid (∀ q∈cx (L.take i) x,q<1000000000):=fun q F=>(by have:=xZ _ _ q F;rw [aG]at this;omega);have gc:Hid (∀ s,s≠x->(fun s=>cx (L.take i) s++if s∈o.take k then [i]else []) s=cx (L.take i) s++if s∈o.take (k+1)then [i]else []):=fun s d=>by
            have z:=ga.out s;by_cases B:s∈o.take k;· simp only [ag B,ag (z.2 (.inl B))]
            · simp only [ae B,ae (fun h=>(z.1 h).elim B d)]
          generalize ge:cx (L.take i) x=aa at *;have c5:=ad ge;clear ge b7;subst c4;rw [eN]at cs;have ak:=CH bm;obtain⟨pv,cv,rfl⟩:=ak.shape';have gg:R+1+1<=wr.heap.size:=(by have z:=M;obtain⟨es,d9,hb,_⟩:=z;exact(aM.1 hb).1);have HG:=ad M;clear M;go_wp2_with (at_builtin;refine cW eJ rfl (.tmp 30) (.tmp 32) 60 rfl Tryz.underlying60 (R+1+1) rfl ak [i] _ _ _ rfl rfl rfl ?c1 gg ?_);case c1=>have:=cq.out;have:=cm.out;first | omega | (simp;omega)
          intro v4 w4 Z;have c8:=Z.own;have gi := K4 c8 (fun q F => by
            rcases iZ.1 F with h | h;· exact gb.out q h
            · simp at h; omega)
          have gs:v4.ownBlock=(Value.slice pv aa.length cv).ownBlock\/∃ g,v4.ownBlock=some g/\wr.heap.size<=g:=by
            obtain⟨g,c,he,_⟩:=c8.atHead (by simp);rcases Z.fresh g (by rw [he];rfl)with h | h;· exact .inl (by rw [h,he];rfl)
            · exact .inr ⟨g,by rw [he];rfl,h⟩
          have dT:=fX bf ak Z (by decide);have gv:w4.heap[R]?=some (pO (.slice none 0 0) (.slice none 0 0)):=Z.chg'.heap K (fun e=>by have:=(ak.lt R e).1;omega);have b0:Fr w w4:=Z.below ak G (by have:=bc.out;omega) G.size;have g1:=Z.chg;have g2:((aa++[i]).map Int.ofNat).length<=n2+1:=(by simp;omega);obtain⟨Q,U,rfl⟩:=c8.shape';have j2:=ad gs;have g3:=ad gi;have j3:=ad g2;have j4:=ad g1;clear gs gi g2 g1;clear Z ak bm c8 bf K G d0;go_wp2_with (at_mapUpdate;refine wpList_mapUpdate_back _ rfl _ _ _ 159 rfl cu rfl rfl rfl j4.out g3.out j3.out j2.out ?_);intro w5 b9 c9;have g4:rowDatum (H:=Unit) .i64 (.slice Q (aa.length+1) U) (aa.map Int.ofNat++[(i:Int)])=py (aa++[i]):=(by have:=Jp g3.out (by simp);simpa using this);rw [g4]at b9;clear g4;have g5:=cp.out.put x (aa++[i]) (by simp);have j5:Hid (DI (D2.put (.string x) (py (aa++[i]))) (fun s=>cx (L.take i) s++if s∈o.take (k+1)then [i]else [])):=by
            have e:(fun s=>cx (L.take i) s++if s∈o.take (k+1)then [i]else [])=fun s=>if s=x then aa++[i]else cx (L.take i) s++if s∈o.take k then [i]else []:=by
              funext s;by_cases ec:s=x;· subst ec;rw [ag rfl,ag ((ga.out s).2 (.inr rfl)),c5.out]
              · rw [ae ec];exact(gc.out s ec).symm
            show DI _ _;rw [e];exact g5
          have j6:w5.heap[R]?=some (pO (.slice none 0 0) (.slice none 0 0)):=(lL c9).heap gv (fun e=>by simp at e);have j7 := dT.kept c9 (by
            cases F : (Value.slice (some ⟨b2, fQ, none⟩) o.length tc).ownBlock with
            | none => exact .inl rfl
            | some g => refine .inr (fun e => ?_); have := (dT.lt g F).1; cases e; omega)
          have bA:Fr w w5:=b0.own c9 (fun q F=>by cases F;have:=bc.out;omega);clear g5 gv dT b0 c9 cu HG gg cp gc c5 gb cs;go_wp2_with fail;go_roundw;case rel=>exact⟨k+1,n2+1,_,by omega,by go_num,j6,b9,j5,by have:=cq.out;show _<=_;omega,j7,bA⟩
          case measure=>simp [intOf];omega
        · obtain rfl:k=o.length:=(by omega);have ka:¬(o.length:Int)<o.length:=(by omega);have kb:Hid (DI D2 (fun s=>cx (L.take (i+1)) s)):=(by have e:(fun s=>cx (L.take (i+1)) s)=fun s=>cx (L.take i) s++if s∈o.take o.length then [i]else []:=(by funext s;rw [f3.out s,dO]);show DI _ _;rw [e];exact cp.out);go_wp2_with fail;go_roundw;case rel=>exact⟨i+1,n2,D2,by omega,by go_num,K,M,kb,by rw [i4.out];have:=cq.out;have:=cm.out;show _<=_;omega,G⟩
          case measure=>simp [intOf];omega
    · obtain rfl:i=l.length:=(by omega);have ka:¬(l.length:Int)<l.length:=(by omega);have g7:L.take l.length=L:=(by rw [<- fk.out,dO]);have g8:DI D (fun s=>cx L s):=(by have:=d1.out;rwa [g7]at this);have g9:=ad g8;have mm:=ad (fun s=>xZ L s);have mn:n<=1048576:=(by have z:=HN.out;have B:=HW.out l.length;omega);clear g7 g8 d1 HN HW fl fm fe HB fb;have d4:R+1+1<=wr.heap.size:=(by have z:=M;obtain⟨es,d9,hb,_⟩:=z;exact(aM.1 hb).1);have bB:Fr wr (wr.alloc (.cells #[.slice none 0 0,.slice none 0 0] 110)):=(Fr.refl wr).alloc _;have gO:=a9 wr (.cells #[.slice none 0 0,.slice none 0 0] 110) wr.heap.size rfl;have ha:=bB.heap K;have hc:=ye M bB;have hd:=G.trans bB;have hg:wr.heap.size<(wr.alloc (.cells #[.slice none 0 0,.slice none 0 0] 110)).heap.size:=(by simp);have hh:=fun W=>callsIn_wide.1 (Tryz.maps_Keys_104 (some (R+1)) W);have hj:∀ W:World,W.ownsGroups Tryz.prog 9 (R+1+1) 3 .i64 (R+1) n D->W.ownsMap Tryz.prog 9 (rowElem (H:=Unit) W (R+1+1) 3 .i64) (R+1) n D:=fun W h=>(by obtain⟨es,d9,z,B,h3,h4,_⟩:=h;exact⟨es,d9,z,B,h3,h4⟩);have hm:=MR L;have cA:=ad (hj _ hc);have ke:=cA.out.size_le;have hn:=ad (callsIn_wide.1 (Tryz.slices_Sorted_keys_103_104 (R+1) n D _ _ cA.out (by unfold maxLen;omega) (by omega)));have kk:=ad (fun W (h:Fr wr W)=>ye M h);clear hj ke M hc G K;obtain⟨m,cB⟩:∃ m,m=wr.heap.size:=⟨_,rfl⟩;rw [<- cB]at gO hg d4;have cE:=ad cB;have ho:=ad hh;clear hh;go_upto_region 12 with fail;rw [<- cB];clear cB;generalize wr.alloc (.cells #[.slice none 0 0,.slice none 0 0] 110)=W1 at *;have hp:Fr W1 (W1.alloc (.cells #[.map (some (R+1))] 159)):=(Fr.refl W1).alloc _;go_wp2_with fail;refine(ho.out _).mono ?_;rintro e w2 ⟨rfl,rfl⟩;go_wp2_with fail;refine hn.out.mono ?_;rintro e w3 ⟨hu,ss,rfl,hx,er,_,hy⟩;have aj:Fr W1 w3:=hp.trans hy;have ev := M9 g9.out cA.out hm (fun s => by
        rw [fr.out s];constructor;· rintro ⟨r, hr, d⟩ e;obtain ⟨q, F, rfl⟩ := List.mem_iff_getElem.1 hr;have := (CM L s q F).2 d;rw [e] at this; cases this
        · intro kn;obtain ⟨q, F⟩ := List.exists_mem_of_ne_nil _ kn;have hz := xZ L s q F
          exact ⟨L[q], bX hz, (CM L s q hz).1 F⟩) hx
      have a3:Ow w3 (m+1) eS hu (iT L):=(by have kq:ss.length=(iT L).length:=(by rw [<- ev,List.length_mergeSort]);rw [ev,kq,<- sF]at er;have h4:Ow w3 (W1.alloc (.cells #[.map (some (R+1))] 159)).heap.size eS hu (iT L):=er;exact h4.rebase (by rw [eg];omega));have h0:=aj.heap ha;have h5:=aj.heap gO;have h6:Fr w w3:=hd.trans aj;have h7:Fr wr w3:=bB.trans aj;have kr:Hid (oH L=(iT L).map (cx L)):=rfl;have ms:=fn.out;have ks:=ad (MT L);clear er hx ev hy ho hn cA hm gO ha hd bB hp aj fr fn hg;generalize h8:iT L=T at *;have kx:=ad h8;clear h8;obtain⟨ta,tc,rfl⟩:=a3.shape';obtain⟨wo,rfl⟩:∃ wo:World,wo=wr:=⟨_,rfl⟩;go_wp2_with fail;go_loopw [40] (fun kv O=>∃ (k:Nat) (tv lv:Value) (d:List Hd),k<=T.length/\kv=N k/\O.heap[m]?=some (pO tv lv)/\O.heap[R]?=some (pO (.slice none 0 0) (.slice none 0 0))/\Ow O (m+1) eS (.slice ta T.length tc) T/\Ow O (m+1) eS tv (T.take k)/\(tv.ownBlock=none\/tv.ownBlock≠(Value.slice ta T.length tc).ownBlock)/\Ow O (m+1) oI lv d/\de O (R+1+1) eJ d ((T.take k).map (cx L))/\Fr w O/\Fr wo O) (fun kv _=>T.length - (intOf kv).toNat);case atStart=>exact⟨0,_,_,[],an _,rfl,h5,h0,a3,by simpa using Ow.nil,.inl rfl,Ow.nil,⟨rfl,fun t a=>by simp at a⟩,h6,h7⟩
      case round=>
        clear h5 h0 a3 h6 h7;obtain⟨k,tv,lv,d,hk,rfl,b3,K,a3,V,Z,b4,a4,G,e0⟩:=hrel;by_cases ba:k<T.length
        · obtain⟨b2,fQ,i5,d5,d0⟩:=AG a3.see k ba;cases d5;have i6:=(ks.out T[k] (bX ba)).2;have bd:Hid (T.take (k+1)=T.take k++[T[k]]):=gy ba;have e3:(T.take k).length=k:=(by rw [aG];omega);have d7:=CB T[k] (by unfold maxLen;omega);have h9:d.length=k:=(by have:=a4.1;rw [eN,e3]at this;exact this);generalize T.take k=tk at *;generalize T[k]=x at *;have ky:=ad e3;have k0:=ad h9;clear e3 h9;obtain⟨X,Y,rfl⟩:=V.shape';obtain⟨pl,I,rfl⟩:=b4.shape';have x0:=af b3 0 rfl;have k5:m+1<=wr.heap.size:=(aM.1 b3).1;have k1:(0:Int)<=k:=(by omega);have k2:(k:Int)<T.length:=(by omega);go_wp2_with (at_builtin;refine cW eS rfl (.tmp 45) (.tmp 47) 107 rfl Tryz.underlying107 (m+1) rfl V [x] _ _ _ rfl rfl rfl ?c1 k5 ?_);case c1=>have:=ky.out;first | omega | (simp;omega)
          intro v4 w4 ap;have bR:=ap.chg'.heap b3 (V.ne_cells b3 (by decide));have hA:=ap.chg'.heap K (fun e=>by have:=(V.lt R e).1;omega);have hB:=ap.other a3 (xJ Z);have hE:=ap.apart a3 (xJ Z);have hH:=fX b4 V ap (by decide);have cF:de w4 (R+1+1) eJ d (tk.map (cx L)):=⟨a4.1,fun t z B=>fX (a4.2 t z B) V ap (by decide)⟩;have b0:Fr w w4:=ap.below V G (by have:=bc.out;omega) G.size;have e5:Fr wo w4:=ap.below V e0 (by have:=cE.out;omega) e0.size;have cG:=ap.own;obtain⟨Q,U,rfl⟩:=cG.shape';obtain⟨J,cL⟩:∃ J,J=tk++[x]:=⟨_,rfl⟩;rw [<- cL]at cG bd hE;have k6:=ad cL;have e4:=af bR 0 rfl;have f4:w4.frozen? ⟨m,0,none⟩=false:=al bR 0;rw [<- cL];clear V b3 K a3 Z b4 a4 G e0 ap x0 cL;have ab:=ao w4 ⟨m,0,none⟩ (.slice Q J.length U);have bT:(w4.setCell ⟨m,0,none⟩ (.slice Q J.length U)).heap[m]?=some (pO (.slice Q J.length U) (.slice pl d.length I)):=(by have:=a8 bR 0 (.slice Q J.length U);simpa using this);have hI:=ab.heap hA (by simp;omega);have hJ:=dx (i:=0) (u:=.slice Q J.length U) hB (show m<m+1 by omega);have hK:=dx (i:=0) (u:=.slice Q J.length U) cG (show m<m+1 by omega);have av:=dx (i:=0) (u:=.slice Q J.length U) hH (show m<m+1 by omega);have e7:de (w4.setCell ⟨m,0,none⟩ (.slice Q J.length U)) (R+1+1) eJ d (tk.map (cx L)):=⟨cF.1,fun t z B=>(cF.2 t z B).chg ab (fun q F e=>(cF.2 t z B).ne_cells bR (by decide) (by rw [F,e]))⟩;have bA:Fr w (w4.setCell ⟨m,0,none⟩ (.slice Q J.length U)):=ex b0 (by have:=bc.out;omega) b0.size;have cN:Fr wo (w4.setCell ⟨m,0,none⟩ (.slice Q J.length U)):=ex e5 (by have:=cE.out;omega) e5.size;go_upto_region 16 with fail;generalize w4.setCell ⟨m,0,none⟩ (.slice Q J.length U)=w5 at *;clear bR hA hB cG hH cF b0 e5 e4 f4 ab d0;have x5:=af bT 1 rfl;have b9:=kk.out w5 cN;have la:m+1<=w5.heap.size:=(aM.1 bT).1;go_wp2_with (at_lookup;refine wpList_lookup_groups _ rfl _ _ 159 rfl 9 60 3 .i64 wn Tryz.underlying159 (zt _) (R+1+1) (R+1) n D rfl b9 (by unfold maxLen;omega) _ _ rfl d7 ?_);intro v zs b7 bm cs cu;have c4:=g9.out.look b7 bm;have c5:Hid (((tk.map (cx L))++[cx L x])=(J.map (cx L))):=(by show _=_;rw [k6.out,gp];rfl);generalize cx L x=aa at *;subst c4;rw [eN]at cs;have ak:=CH bm;obtain⟨pv,cv,rfl⟩:=ak.shape';clear b7 bm cu b9;go_wp2_with (at_builtin;refine cW oI rfl (.tmp 51) (.tmp 55) 108 rfl Tryz.underlying108 (m+1) rfl av [⟨pv,aa.length,cv⟩] _ _ _ rfl rfl rfl ?c1 la ?_);case c1=>have:=k0.out;first | omega | (simp;omega)
          intro v6 w6 a2;have cR:=ad (a2.chg'.heap bT (av.ne_cells bT (by decide)));have lc:=ad (a2.chg'.heap hI (fun e=>by have:=(av.lt R e).1;omega));have li:=fX hJ av a2 (by decide);have ll:=fX hK av a2 (by decide);have ln:=fX ak av a2 (by decide);have hL:∀ t (z:t<d.length) (B:t<(tk.map (cx L)).length),Ow w6 (R+1+1) eJ d[t].v (tk.map (cx L))[t]:=fun t z B=>fX (e7.2 t z B) av a2 (by decide);have e8:=ad e7.1;have lo:=ad hL;have hM:Fr w w6:=a2.below av bA (by have:=bc.out;omega) bA.size;have hO:Fr wo w6:=a2.below av cN (by have:=cE.out;omega) cN.size;have e9:=a2.own;obtain⟨p6,z6,rfl⟩:=e9.shape';obtain⟨a5,cT⟩:∃ a5,a5=d++[(⟨pv,aa.length,cv⟩:Hd)]:=⟨_,rfl⟩;rw [<- cT]at e9;have lr:=ad cT;have e6:w6.cell? ⟨m,1,none⟩=some (.slice pl d.length I):=(by rw [aA cR.out];rfl);have f6:w6.frozen? ⟨m,1,none⟩=false:=al cR.out 1;rw [<- cT];clear bT hI hJ hK av e7 hL bA cN x5 ak a2 cT;go_wp2_with fail;go_roundw
          case rel=>
            have ab:=ao w6 ⟨m,1,none⟩ (.slice p6 a5.length z6);have da:∀ {v:Value} {q:List Nat},Ow w6 (R+1+1) eJ v q->Ow (w6.setCell ⟨m,1,none⟩ (.slice p6 a5.length z6)) (R+1+1) eJ v q:=fun h=>h.chg ab (fun q F e=>h.ne_cells cR.out (by decide) (by rw [F,e]));have hrel:de (w6.setCell ⟨m,1,none⟩ (.slice p6 a5.length z6)) (R+1+1) eJ a5 ((T.take (k+1)).map (cx L)):=by
              revert da;generalize w6.setCell ⟨m,1,none⟩ (.slice p6 a5.length z6)=W6;intro da;rw [bd.out,<- c5.out,lr.out];refine⟨by rw [aD,aD,e8.out];rfl,fun t a b=>?_⟩;by_cases ht:t<d.length;· have hS:t<(tk.map (cx L)).length:=(by rw [<- e8.out];exact ht);rw [of ht,of hS];exact da (lo.out t ht hS)
              · have e1:t=d.length:=(by rw [aD,lg]at a;omega);subst e1;rw [nu (am _)];have e2:d.length=(tk.map (cx L)).length:=e8.out;rw [nu (by rw [<- e2];exact am _)];simp only [gu,e2,znQb];exact da ln
            exact⟨k+1,_,_,a5,by omega,by go_num,by have:=a8 cR.out 1 (.slice p6 a5.length z6);simpa using this,ab.heap lc.out (by simp;omega),dx li (by omega),by rw [bd.out];exact dx ll (by omega),xJ hE,dx e9 (by omega),hrel,ex hM (by have:=bc.out;omega) hM.size,ex hO (by have:=cE.out;omega) hO.size⟩
          case measure=>simp [intOf];omega
        · obtain rfl:k=T.length:=(by omega);have m0:¬(T.length:Int)<T.length:=(by omega);rw [dO]at V a4;have hU:(T.map (cx L))=oH L:=kr.out.symm;rw [hU]at a4;clear hU Z a3;obtain⟨X,Y,rfl⟩:=V.shape';obtain⟨pl,I,rfl⟩:=b4.shape';have fa:(Tryz.prog.info? 110).map (·.size)=some 2:=(by kernel_rfl);have ls:(#[Value.slice X T.length Y,Value.slice pl d.length I]:Array Value).all (·.oneCell')=true:=(by simp [Value.oneCell']);go_wp2_with (first | (refine kD rfl 110 (.tmp 8) rfl m rfl 110 #[.slice X T.length Y,.slice pl d.length I] (0,0) _ b3 Tryz.underlying110 rfl fa ?_) | (refine bS rfl 110 (.tmp 2) (.tmp 59) rfl R #[.slice X T.length Y,.slice pl d.length I] rfl rfl 110 _ K fa rfl ls ?_));have ab:=bC wr R #[.slice X T.length Y,.slice pl d.length I];have lt:Fr w (wr.setRow R #[.slice X T.length Y,.slice pl d.length I]):=ah.below G ab G.size (fun k hk=>by have:=bc.out;omega);have lu:=ad lt;have lz:Hid (Ow (wr.setRow R #[.slice X T.length Y,.slice pl d.length I]) (m+1) eS (.slice X T.length Y) T):=V.chg ab (fun k hk e=>by have:=(V.lt k hk).1;omega);have l0:Hid (Ow (wr.setRow R #[.slice X T.length Y,.slice pl d.length I]) (m+1) oI (.slice pl d.length I) d):=b4.chg ab (fun k hk e=>by have:=(b4.lt k hk).1;omega);have l1:Hid (de (wr.setRow R #[.slice X T.length Y,.slice pl d.length I]) (R+1+1) eJ d (oH L)):=⟨a4.1,fun t a b=>(a4.2 t a b).chg ab (fun k hk e=>by have:=((a4.2 t a b).lt k hk).1;omega)⟩
          exact aL (v:=.agg #[.slice X T.length Y,.slice pl d.length I]) (rr Tryz.results67 _ _ R 110 #[.slice X T.length Y,.slice pl d.length I] (0,0) _ rfl (cP _ R _ #[.slice X T.length Y,.slice pl d.length I] _ _ K) Tryz.underlying110 rfl fa) rfl
            ⟨_,_,rfl,by rw [kx.out];exact lz.out.see,⟨d,l1.out.sees2 l0.out.see⟩,lu.out⟩
end Go.Proofs.YtfpijnhhdfoohaaGreatDoor
