/- Parts of the proof of ArchPacks: M1 M2 M3 R2 R3. -/
import Derived.Test.YtdamnfpigajmoaaGreatDoorM25
import Derived.Test.YtdamnfpigajmoaaGreatDoorM14
import Derived.Test.YtdamnfpigajmoaaGreatDoorM04
set_option linter.unusedVariables false
set_option linter.unusedSectionVars false
set_option linter.unusedSimpArgs false
set_option maxHeartbeats 8000000
set_option maxRecDepth 100000
namespace Go.Fk
abbrev dQQb:=@List.length_map
abbrev kKQc:=@List.length_range
abbrev mOQb:=@List.getElem_cons_zero
abbrev oxQb:=@Int.natCast_mul
abbrev pJ:=@Go.cell_setRow_same
end Go.Fk
namespace Go.Proofs.YtdamnfpigajmoaaGreatDoor
open Go.RowKit Go.Fk
def kW(a:Nat):Nat:=if a=0 then 0 else fT a
def jY(k i j:Nat):UInt8:=UInt8.ofNat (kW ((k+i) ^^^ j))
def nU(k i n:Nat):List UInt8:=(List.range n).map (jY k i)
def br(k i j:Nat):List UInt8:=((List.range i).map fun i=>nU k i k).flatten++nU k i j
theorem Al(k i j:Nat):br k i (j+1)=br k i j++[jY k i j]:=by
 unfold br nU;rw [jt,fN,eE];rfl
theorem Am(k i:Nat):br k (i+1) 0=br k i k:=by
 unfold br;rw [jt,fN,ly];simp [nU]
theorem Ak(k:Nat):br k 0 0=[]:=by simp [br,nU]
theorem rH(k i j:Nat):(br k i j).length=i*k+j:=by
 unfold br nU;rw [an,dQQb,kKQc,List.length_flatten,mL];have:∀ n,((List.range n).map (List.length ∘ fun i=>(List.range k).map (jY k i))).sum=n*k:=by
  intro n
  induction n with
  | zero=>simp
  | succ n d=>rw [jt,fN,rW,d];simp [Nat.succ_mul]
 rw [this]
def lf(k m:Nat)(v:Value):Value:=.agg #[N m,N k,v]
theorem zb(a:Nat):∃ e:Int,lJ a=.tuple #[B8 (kW a),.int .i64 e]:=by
 unfold lJ kW;split;· exact⟨13,rfl⟩
 · exact⟨0,rfl⟩
theorem zd(a:Nat)(h:a<256):kW a<256:=by
 unfold kW;split;· omega
 · exact(qZ a (by assumption) h).1
theorem Ky (k m : Nat) (hk : 1 ≤ k) (bn : k + m ≤ 255) (w : World) :
    Calls Tryz.prog 190 #[N k,N m] w fun e w'=>∃ v,e=.returned (.tuple #[lf k m v,.int .i64 0])/\Ow w' w.heap.size eB v (br k m 0)/\Fr w w':=by
  go_enter Tryz.func190, Tryz.ntmps190;go_wp2_with fail;have O:((w.alloc (.cells #[.int .i64 0,.int .i64 0,.slice none 0 0] 163)).alloc (.cells #[N m,N k,.slice none 0 0] 163)).heap[w.heap.size]? = some (.cells #[.int .i64 0,.int .i64 0,.slice none 0 0] 163 (0,0)):=(by rw [gz _ _ _ (by simp),au _ _ _ rfl]);have Q:((w.alloc (.cells #[.int .i64 0,.int .i64 0,.slice none 0 0] 163)).alloc (.cells #[N m,N k,.slice none 0 0] 163)).heap[w.heap.size+1]? = some (.cells #[N m,N k,.slice none 0 0] 163 (0,0)):=au _ _ _ (by simp);have R:Fr w ((w.alloc (.cells #[.int .i64 0,.int .i64 0,.slice none 0 0] 163)).alloc (.cells #[N m,N k,.slice none 0 0] 163)):=((Fr.refl w).alloc _).alloc _;have T:w.heap.size+2<=((w.alloc (.cells #[.int .i64 0,.int .i64 0,.slice none 0 0] 163)).alloc (.cells #[N m,N k,.slice none 0 0] 163)).heap.size:=(by simp);generalize (w.alloc (.cells #[.int .i64 0,.int .i64 0,.slice none 0 0] 163)).alloc (.cells #[N m,N k,.slice none 0 0] 163)=w0 at *;generalize U:w.heap.size=g at *;have V:Below g w w0:=(by rw [<- U];exact R);clear R;go_loopw [7] (fun J wr=>∃ (i:Nat) (d:Value),i<=m/\J=N i/\wr.heap[g]? = some (.cells #[.int .i64 0,.int .i64 0,.slice none 0 0] 163 (0,0))/\wr.heap[g+1]? = some (.cells #[N m,N k,d] 163 (0,0))/\Ow wr (g+2) eB d (br k i 0)/\Below g w wr/\g+2<=wr.heap.size) (fun J _=>m - (intOf J).toNat);case atStart=>exact⟨0,.slice none 0 0,ap _,rfl,O,Q,by rw [Ak];exact Ow.nil,V,T⟩
  case round=>
    clear O Q V T;obtain⟨i,d,hi,rfl,o,z,h,D,F⟩:=hrel;by_cases bu:i<m
    · have bv:(i:Int)<m:=(by omega);go_wp2_with fail;go_loopw [8] (fun K wr=>∃ (j:Nat) (d:Value),j<=k/\K=N j/\wr.heap[g]? = some (.cells #[.int .i64 0,.int .i64 0,.slice none 0 0] 163 (0,0))/\wr.heap[g+1]? = some (.cells #[N m,N k,d] 163 (0,0))/\Ow wr (g+2) eB d (br k i j)/\Below g w wr/\g+2<=wr.heap.size) (fun K _=>k - (intOf K).toNat);case atStart=>exact⟨0,d,ap _,rfl,o,z,h,D,F⟩
      case round=>
        clear o z h D F;obtain⟨j,d,hj,rfl,o,z,h,D,F⟩:=hrel;by_cases bz:j<k
        · have b0:(j:Int)<k:=(by omega);have X:(k+i) ^^^ j<2 ^ 8:=iw (by omega) (by omega);have Y:=mT (k+i) j (by omega) (by omega);have a4:((k:Int)+i) % 256=((k+i:Nat):Int):=(by omega);have b1:(j:Int) % 256=j:=(by omega);have b2:bits .xor .u8 ((k:Int)+i) (j:Int)=(((k+i) ^^^ j:Nat):Int):=(by rw [show(k:Int)+i=((k+i:Nat):Int) by omega];exact Y);have Z:Hid (br k i (j+1)=br k i j++[jY k i j]):=Al k i j;have a5:=rH k i j;have a6:i*k<=255*255:=b7 (by omega) (by omega);have a7:(br k i j).length+1<=2147483648:=(by omega);have HB:Hid ((#[B8 (kW ((k+i) ^^^ j))]:Array Value).toList=eB.cells [jY k i j]):=lN _ (zd _ X);have HI:=ad (JX ((k+i) ^^^ j) X);obtain⟨er,ab⟩:=zb ((k+i) ^^^ j);rw [ab]at HI;clear Y a4 a5 a6 ab;generalize (k+i) ^^^ j=x at *;generalize kW x=y at *;generalize jY k i j=c at *;have e2:=ae z 2 rfl;go_wp2_with fail;refine(HI.out _).mono ?_;rintro e w1 ⟨rfl,rfl⟩;go_wp2_with (at_builtin;refine aM eB rfl (.tmp 57) (.tmp 59) 29 rfl Tryz.underlying29 (g+2) rfl h [c] _ _ _ HB.out rfl rfl a7 F ?_);intro v' w4 G;have L:=G.own;obtain⟨va,vc,av⟩:=L.shape';rw [<- Z.out]at av;subst av;have a0:∀ q,q<g+2->¬d.ownBlock=some q:=fun q I e=>(by have:=(h.lt q e).1;omega);have k0:=G.chg'.heap o (a0 g (by omega));have M:=G.chg'.heap z (a0 (g+1) (by omega));have bc:Below g w w4:=G.below h D (by omega) (by omega);have b8:=G.size;have e3:=ae M 2 rfl;have e4:w4.frozen? ⟨g+1,2,none⟩=false:=az M 2;go_wp2_with fail;go_roundw
          case rel=>
            refine⟨j+1,.slice va (br k i (j+1)).length vc,by omega,by go_num,?_,?_,?_,?_,?_⟩;· rw [md _ _ _ _ (by simp)];exact k0
            · exact aB M 2 _
            · rw [<- Z.out]at L;exact et L (by omega)
            · exact db bc (by omega) (by omega)
            · simp [World.setCell];omega
          case measure=>simp [intOf];omega
        · obtain rfl:j=k:=(by omega);have bd:¬((j:Int)<j):=(by omega);rw [<- Am]at h;go_wp2_with fail;go_roundw;case rel=>exact⟨i+1,d,by omega,by go_num,o,z,h,D,F⟩
          case measure=>simp [intOf];omega
    · obtain rfl:i=m:=(by omega);have bd:¬((i:Int)<i):=(by omega);have a1:(Tryz.prog.info? 163).map (·.size)=some 3:=(by kernel_rfl);have bf:(#[N i,N k,d]:Array Value).all (·.oneCell')=true:=(by obtain⟨va,vc,rfl⟩:=h.shape';rw [kjQb];rfl);have q0:=pJ wr g 0 _ #[N i,N k,d] _ _ o;have q1:=pJ wr g 1 _ #[N i,N k,d] _ _ o;have q2:=pJ wr g 2 _ #[N i,N k,d] _ _ o;have bk:Ow (wr.setRow g #[N i,N k,d]) (g+2) eB d (br k i 0):=h.chg (fP wr g _) fun q I=>(by have:=(h.lt q I).1;show ¬q=g;omega);have a2:Below g w (wr.setRow g #[N i,N k,d]):=ak.below D (fP wr g _) (by omega) (fun q I=>gZ I.symm);go_wp2_with (first | (refine iQ rfl 163 (.tmp 6) rfl (g+1) rfl 163 #[N i,N k,d] (0,0) _ z Tryz.underlying163 rfl a1 ?_) | (refine gG rfl 163 (.tmp 4) (.tmp 62) rfl g #[N i,N k,d] rfl rfl 163 _ o a1 rfl bf ?_));exact b6Qb (v:=.tuple #[lf k i d,.int .i64 0]) (by simp [results,Tryz.results190,go_sem, *];rfl) rfl ⟨_,rfl,bk.rebase (by omega),by rw [<- U]at a2 ⊢;exact a2⟩
theorem wA(n:Nat)(h:n<=255)(w:World):Calls Tryz.prog 167 #[N n] w fun e w'=>e=.returned (.bool true)/\w=w':=by
 have d:(0:Int)<=n:=by omega
 have m:(n:Int)<=255:=by omega
 go_enter Tryz.func167, Tryz.ntmps167;go_wp2_with fail;go_ret;exact⟨rfl,rfl⟩
theorem In (k i j B : Nat) (q : k + i ≤ 255) (z : j ≤ 255) (w : World) (A : w.cell? ⟨B, 0, none⟩ = some (N k)) :
    Calls Tryz.prog 169 #[N i,N j,.pointer (some ⟨B,0,none⟩)] w fun e w'=>e=.returned (Fk.u8 (jY k i j))/\w=w':=by
  have d:(k+i) ^^^ j<2 ^ 8:=iw (by omega) (by omega);have D:bits .xor .i64 ((k:Int)+i) (j:Int)=(((k+i) ^^^ j:Nat):Int):=(by rw [show(k:Int)+i=((k+i:Nat):Int) by omega];exact sj (k+i) j (by omega) (by omega));have h:=ad (Lc ((k+i) ^^^ j) d);obtain⟨F,m⟩:=zb ((k+i) ^^^ j);rw [m]at h;have o:Hid (B8 (kW ((k+i) ^^^ j))=Fk.u8 (jY k i j)):=mB _ (zd _ d);clear m;generalize (k+i) ^^^ j=x at *;generalize kW x=y at *;have G:(x:Int) % 256=x:=(by omega);go_enter Tryz.func169, Tryz.ntmps169;go_wp2_with fail;refine(h.out _).mono ?_;rintro e I ⟨rfl,rfl⟩;go_wp2_with fail;go_ret;exact⟨fX Ending.returned o.out,rfl⟩
theorem F8(k m B:Nat)(hk:1<=k)(cf:k+m<=255)(w:World)(Y:w.cell? ⟨B,0,none⟩=some (N k)) :
  Calls Tryz.prog 168 #[N m,N k,.func (.func 169) #[] #[.pointer (some ⟨B,0,none⟩)]] w fun e w'=>∃ v,e=.returned (lf k m v)/\Ow w' w.heap.size eB v (br k m 0)/\Fr w w':=by
 have bm:IntKind.i64.wrap ((m:Int)*k)=((m*k:Nat):Int):=by have:m*k<=255*255:=b7 (by omega) (by omega);rw [show(m:Int)*k=((m*k:Nat):Int) by simp];exact mV _ (by omega)
 go_enter Tryz.func168, Tryz.ntmps168;have Z:m*k<=1000000000:=by have:m*k<=255*255:=b7 (by omega) (by omega);omega
 have aa:(m:Int)*k=((m*k:Nat):Int):=by simp
 have ab:=ad aa;clear aa bm;go_upto_region 3 with(at_make;refine s7 eB rfl (.const (.int .i64 0)) (.tmp 14) 29 rfl Tryz.underlying29 .i64 .i64 _ (m*k) rfl rfl ab.out Z (w.heap.size+1) (by simp) ?_);intro y o L;have ac:Fr w y:=ak.below ((Fr.refl w).alloc _) (lK L) (by simp) (fun q z=>by cases z);have D:y.heap[w.heap.size]? = some (.cells #[.int .i64 0,.int .i64 0,.slice none 0 0] 163 (0,0)):=(lK L).heap (au _ _ _ rfl) (by intro q;cases q);have bn:=o.lt (w.heap.size+1) (by simp [Value.ownBlock]);have bt:w.heap.size+2<=y.heap.size:=by omega
 have aj:(y.alloc (.cells #[N m,N k,.slice (some ⟨w.heap.size+1,0,none⟩) 0 (m*k)] 163)).heap[w.heap.size]? = some (.cells #[.int .i64 0,.int .i64 0,.slice none 0 0] 163 (0,0)):=by rw [gz _ _ _ (by omega)];exact D
 have av:(y.alloc (.cells #[N m,N k,.slice (some ⟨w.heap.size+1,0,none⟩) 0 (m*k)] 163)).heap[y.heap.size]? = some (.cells #[N m,N k,.slice (some ⟨w.heap.size+1,0,none⟩) 0 (m*k)] 163 (0,0)):=au _ _ _ rfl;have a0:y.heap.size<(y.alloc (.cells #[N m,N k,.slice (some ⟨w.heap.size+1,0,none⟩) 0 (m*k)] 163)).heap.size:=by simp
 have a1:Fr w (y.alloc (.cells #[N m,N k,.slice (some ⟨w.heap.size+1,0,none⟩) 0 (m*k)] 163)):=ac.alloc _;have a2:=o.fr ((Fr.refl y).alloc (.cells #[N m,N k,.slice (some ⟨w.heap.size+1,0,none⟩) 0 (m*k)] 163));have a3:(Value.slice (some ⟨w.heap.size+1,0,none⟩) 0 (m*k)).ownBlock≠some y.heap.size:=by simp [Value.ownBlock];omega
 go_upto_region 3 with fail;generalize y.alloc (.cells #[N m,N k,.slice (some ⟨w.heap.size+1,0,none⟩) 0 (m*k)] 163)=w0 at *;generalize bv:Value.slice (some ⟨w.heap.size+1,0,none⟩) 0 (m*k)=bx at *;generalize y.heap.size=r at *;have ch:w.heap.size<r:=by omega
 clear bt bn D ac L o bv Z ab;have M:=Y;generalize O:w.heap.size=g at *;have a4:Below g w w0:=by rw [<- O];exact a1
 clear a1;go_loopw [18] (fun Q wr=>∃ (i:Nat) (d:Value),i<=m/\Q=N i/\wr.heap[g]? = some (.cells #[.int .i64 0,.int .i64 0,.slice none 0 0] 163 (0,0))/\wr.heap[r]? = some (.cells #[N m,N k,d] 163 (0,0))/\Ow wr (g+1) eB d (br k i 0)/\d.ownBlock≠some r/\Below g w wr/\r<wr.heap.size) (fun Q _=>m - (intOf Q).toNat);case atStart=>exact⟨0,bx,ap _,rfl,aj,av,by rw [Ak];exact a2,a3,a4,a0⟩
 case round=>
  clear aj av a2 a3 a4 a0;obtain⟨i,d,hi,rfl,D,F,o,G,I,K⟩:=hrel;by_cases bz:i<m
  · have b0:(i:Int)<m:=(by omega);go_wp2_with fail;go_loopw [22] (fun R wr=>∃ (j:Nat) (d:Value),j<=k/\R=N j/\wr.heap[g]? = some (.cells #[.int .i64 0,.int .i64 0,.slice none 0 0] 163 (0,0))/\wr.heap[r]? = some (.cells #[N m,N k,d] 163 (0,0))/\Ow wr (g+1) eB d (br k i j)/\d.ownBlock≠some r/\Below g w wr/\r<wr.heap.size) (fun R _=>k - (intOf R).toNat);case atStart=>exact⟨0,d,ap _,rfl,D,F,o,G,I,K⟩
    case round=>
     clear D F o G I K;obtain⟨j,d,hj,rfl,D,F,o,G,I,K⟩:=hrel;by_cases b1:j<k
     · have cm:(j:Int)<k:=(by omega);have HS:Hid (br k i (j+1)=br k i j++[jY k i j]):=Al k i j;have b2:=rH k i j;have b3:i*k<=255*255:=b7 (by omega) (by omega);have b4:Hid ((br k i j).length+1<=2147483648):=(by show _<=_;omega);have HI:Hid (∀ W,Fr wr W->Calls Tryz.prog 169 #[N i,N j,.pointer (some ⟨B,0,none⟩)] W fun e w'=>e=.returned (Fk.u8 (jY k i j))/\W=w'):=fun W hW=>(by refine In k i j B (by omega) (by omega) W (hW.cell ?_);exact(Below.cell I (by rw [<- O];exact World.block_lt_of_cell? w _ M)).trans M);clear b2 b3;generalize jY k i j=c at *;have e2:=ae F 2 rfl;have a7:Hid (g+1<=wr.drew.heap.size):=(by show _<=_;have:wr.drew.heap.size=wr.heap.size:=rfl;omega);have T:=o.drew;have bA:∀ q,d.ownBlock=some q->g+1<=q:=fun q z=>(o.lt q z).1;have cn:(j:Int)+1<=255:=(by omega);clear M Y bz b1 b0 o hk;go_upto_region 8 with fail
       go_region_law (first
        | (refine x9 eB rfl (.tmp 26) (.tmp 31) 29 rfl Tryz.underlying29 (g + 1) rfl T [c] _ _ _ rfl rfl rfl b4.out a7.out ?_
           intro v' w4 J
           have U := J.own
           obtain ⟨va, vc, bc⟩ := U.shape'
           rw [← HS.out] at bc
           subst bc
           have k0 := J.chg'.heap (show wr.drew.heap[g]? = _ from D) (fun e => by have := bA g e; omega)
           have V := J.chg'.heap (show wr.drew.heap[r]? = _ from F) G
           have bR : Below g w w4 := J.below T (Below.drew I) (by omega) (by have := a7.out; omega)
           have co := J.size
           have bd := J.fresh
           have e3 := ae V 2 rfl
           have e4 : w4.frozen? ⟨r, 2, none⟩ = false := az V 2)
        | (go_simp; go_at_call 169; refine (HI.out _ (Fr.drew (Fr.refl _))).mono ?_; rintro e w3 ⟨rfl, rfl⟩))
       all_goals clear HI e2 T
       all_goals go_wp2_with fail
       all_goals go_roundw
       all_goals first
        | (refine ⟨j + 1, .slice va (br k i (j + 1)).length vc, by omega, by go_num, ?_, ?_, ?_, ?_, ?_, ?_⟩
           · rw [md _ _ _ _ (by simp; omega)]; exact k0
           · exact aB V 2 _
           · rw [← HS.out] at U
             exact U.chg (aw w4 ⟨r, 2, none⟩ _) fun q z e => by
              have e : q = r := e
              subst e
              rcases bd _ z with h | h
              · exact G h
              · have : wr.drew.heap.size = wr.heap.size := rfl
                omega
           · intro z
             rcases bd _ z with h | h
             · exact G h
             · have : wr.drew.heap.size = wr.heap.size := rfl
               omega
           · exact db bR (by omega) (by have : wr.drew.heap.size = wr.heap.size := rfl; omega)
           · have : wr.drew.heap.size = wr.heap.size := rfl
             simp [World.setCell]; omega)
        | (simp [intOf];omega)
     · obtain rfl:j=k:=(by omega);have ca:¬((j:Int)<j):=(by omega);rw [<- Am]at o;go_wp2_with fail;go_roundw;case rel=>exact⟨i+1,d,by omega,by go_num,D,F,o,G,I,K⟩
       case measure=>simp [intOf];omega
  · obtain rfl:i=m:=(by omega);have ca:¬((i:Int)<i):=(by omega);have X:(Tryz.prog.info? 163).map (·.size)=some 3:=(by kernel_rfl);have cb:(#[N i,N k,d]:Array Value).all (·.oneCell')=true:=(by obtain⟨va,vc,rfl⟩:=o.shape';rw [kjQb];rfl);have cc:Ow (wr.setRow g #[N i,N k,d]) (g+1) eB d (br k i 0):=o.chg (fP wr g _) fun q z=>(by have:=(o.lt q z).1;show ¬q=g;omega);have bf:Below g w (wr.setRow g #[N i,N k,d]):=ak.below I (fP wr g _) (by omega) (fun q z=>gZ z.symm);go_wp2_with (first | (refine iQ rfl 163 (.tmp 7) rfl r rfl 163 #[N i,N k,d] (0,0) _ F Tryz.underlying163 rfl X ?_) | (refine gG rfl 163 (.tmp 6) (.tmp 36) rfl g #[N i,N k,d] rfl rfl 163 _ D X rfl cb ?_));exact b6Qb (v:=lf k i d) (rU Tryz.results168 _ _ g 163 #[N i,N k,d] (0,0) _ rfl (kGQb _ g _ #[N i,N k,d] _ _ D) Tryz.underlying163 rfl X) rfl ⟨_,rfl,cc.rebase (by omega),by rw [<- O]at bf ⊢;exact bf⟩
theorem Ls(k m:Nat)(L:1<=k)(M:k+m<=255)(w:World) :
  Calls Tryz.prog 116 #[N k,N m] w fun e w'=>∃ v,e=.returned (.tuple #[lf k m v,.int .i64 0])/\Ow w' w.heap.size eB v (br k m 0)/\Fr w w':=by
 have ac:∀ (I:Fn) (first J:Array Value) (w:World),(Instr.makeFunc I first J).run Tryz.prog w=.ok (.func I first J) w:=fun _ _ _ _=>rfl;have O:=ad (wA k (by omega));have Q:=ad (wA m (by omega));have R:Hid (∀ W,W.cell? ⟨w.heap.size,0,none⟩=some (N k)->Calls Tryz.prog 168 #[N m,N k,.func (.func 169) #[] #[.pointer (some ⟨w.heap.size,0,none⟩)]] W fun e w'=>∃ v,e=.returned (lf k m v)/\Ow w' W.heap.size eB v (br k m 0)/\Fr W w'):=fun W h=>F8 k m w.heap.size L M W h;have aj:¬(255:Int)<(k:Int)+m:=by omega
 have av:(k:Int)+m<=255:=by omega
 go_enter Tryz.func116, Tryz.ntmps116;go_wp2_with fail;refine(O.out _).mono ?_;rintro e w1 ⟨rfl,rfl⟩;go_wp2_with fail;refine(Q.out _).mono ?_;rintro e w2 ⟨rfl,rfl⟩;have T:((w.alloc (.cells #[N k] 3)).alloc (.cells #[.int .i64 0,.int .i64 0,.slice none 0 0] 163)).cell? ⟨w.heap.size,0,none⟩=some (N k):=by rw [aL (by rw [gz _ _ _ (by simp)];exact au _ _ _ rfl)];rfl
 have U:((w.alloc (.cells #[N k] 3)).alloc (.cells #[.int .i64 0,.int .i64 0,.slice none 0 0] 163)).heap[w.heap.size+1]? = some (.cells #[.int .i64 0,.int .i64 0,.slice none 0 0] 163 (0,0)):=au _ _ _ (by simp);have V:Fr w ((w.alloc (.cells #[N k] 3)).alloc (.cells #[.int .i64 0,.int .i64 0,.slice none 0 0] 163)):=((Fr.refl w).alloc _).alloc _;have a2:((w.alloc (.cells #[N k] 3)).alloc (.cells #[.int .i64 0,.int .i64 0,.slice none 0 0] 163)).heap.size=w.heap.size+2:=by simp
 generalize (w.alloc (.cells #[N k] 3)).alloc (.cells #[.int .i64 0,.int .i64 0,.slice none 0 0] 163)=X at *;go_wp2_with fail;refine(R.out _ T).mono ?_;rintro e y ⟨v3,rfl,D,F⟩;have z:=F.heap U;have K:=V.trans F;have a3:=F.size;obtain⟨d,o,rfl⟩:=D.shape';generalize hg:w.heap.size+1=g at *;have Y:(Tryz.prog.info? 163).map (·.size)=some 3:=by kernel_rfl
 have Z:(#[N m,N k,.slice d (br k m 0).length o]:Array Value).all (·.oneCell')=true:=by rw [kjQb];rfl
 have q0:=pJ y g 0 _ #[N m,N k,.slice d (br k m 0).length o] _ _ z;have q1:=pJ y g 1 _ #[N m,N k,.slice d (br k m 0).length o] _ _ z;have q2:=pJ y g 2 _ #[N m,N k,.slice d (br k m 0).length o] _ _ z;have aa:Ow (y.setRow g #[N m,N k,.slice d (br k m 0).length o]) X.heap.size eB (.slice d (br k m 0).length o) (br k m 0):=D.chg (fP y g _) fun q G=>by have:=(D.lt q G).1;show ¬q=g;omega
 have ab:Fr w (y.setRow g #[N m,N k,.slice d (br k m 0).length o]):=ak.below K (fP y g _) K.size (fun q G=>by rw [G];omega);unfold lf;go_wp2_with (refine gG rfl 163 (.tmp 4) (.tmp 24) rfl g #[N m,N k,.slice d (br k m 0).length o] rfl rfl 163 _ z Y rfl Z ?_);exact b6Qb (v:=.tuple #[.agg #[N m,N k,.slice d (br k m 0).length o],.int .i64 0]) (by simp [results,Tryz.results116,go_sem, *]) rfl ⟨_,rfl,aa.rebase (by omega),ab⟩
theorem Cu(M:List UInt8)(R:Nat)(mv dv:Value)(G:List Hd)(d:List (List UInt8))(L:Nat)(w:World)(hM:af w eB mv M)(U:bY w aP eB dv G d)
  (hC:1<=d.length) (hC2:d.length<=255) (hR:R<=255) (hMl:M.length=R*d.length) (hl:∀ p∈d,p.length=L) (hL:L<=1000000) :
  Calls Tryz.prog 117 #[.agg #[N R,N d.length,mv],dv] w fun e w'=>∃ v,e=.returned v/\∃ o,Ow w' w.heap.size aP v o/\ck w' w.heap.size eB o (j6 M d.length R d L)/\Fr w w':=by
 obtain⟨da,e5,cz,e6,c1,e7⟩:=U.1.shape;obtain⟨D,F,c3,e9,c4,fa⟩:=hM.shape;subst cz c3;unfold maxLen at c1 c4;have fb:=U.2.1;have fc:R*d.length<=255*255:=b7 hR hC2;have bx:=fun i j (hj:j<=d.length)=>nj M d.length i d L j hl hj;have c5:=ad bx;clear bx;have ac:=ad hMl;clear hMl;have bz:(w.alloc (.cells #[N R,N d.length,.slice D M.length F] 163)).heap[w.heap.size]? = some (.cells #[N R,N d.length,.slice D M.length F] 163 (0,0)):=au _ _ _ rfl;have b3:Fr w (w.alloc (.cells #[N R,N d.length,.slice D M.length F] 163)):=(Fr.refl w).alloc _;have fd:¬(R:Int)<0:=by omega
 have c6:=mw aP rfl rfl 72 Tryz.underlying72 .i64 .i64 R (by omega) (w.alloc (.cells #[N R,N d.length,.slice D M.length F] 163));have b4:=my (base:=w.heap.size+1) aP rfl rfl R (by omega) (w.alloc (.cells #[N R,N d.length,.slice D M.length F] 163)) (by simp);have c7:=ad b4;clear b4;have V:=b3.alloc (.cells (madeCells #[aP.z] R) aP.e);have b5:=((Fr.refl _).alloc (.cells (madeCells #[aP.z] R) aP.e)).heap bz;go_enter Tryz.func117, Tryz.ntmps117;go_wp2_with fail;go_loopw [16] (fun iv wr=>∃ (i:Nat) (o:List Hd),i<=R/\iv=N i/\Ow wr (w.heap.size+1) aP (.slice (some ⟨w.heap.size+1,0,none⟩) R R) o/\o.length=R/\Hid (∀ t (h:t<o.length),t<i->Ow wr (w.heap.size+1) eB o[t].v (dx M d.length t d L d.length))/\wr.heap[w.heap.size]? = some (.cells #[N R,N d.length,.slice D M.length F] 163 (0,0))/\Fr w wr) (fun iv _=>R - (intOf iv).toNat);case atStart=>exact⟨0,_,ap _,rfl,by simpa [dp] using c7.out,by simp,fun t h ht=>by omega,b5,V⟩
 case round=>
  clear b5 V c6 bz b3;obtain⟨i,o,hi,rfl,X,I,HP,hB,K⟩:=hrel;by_cases fl:i<R
  · have J:=U.fr K;obtain⟨b0,fn,fr,c8,e0⟩:=J.1.cell1 (fun(h:Hd)=>h.v) rfl 0 (by omega);have b8:=J.2.2 0 (by omega) (by omega);have bA:=hl _ (aH (l:=d) (n:=0) (by omega));obtain⟨a0,c0,a5,_⟩:=b8.shape;generalize G[0]'(by omega)=h0 at *;rw [bA]at a5;clear bA b8;obtain⟨f0,m,f1⟩:=h0;simp only [Hd.v,ed]at a5;obtain⟨rfl,rfl,rfl⟩:=a5;simp only [Hd.v]at e0;cases c8;rw [cX]at e0;have bB:=mw eB rfl rfl 29 Tryz.underlying29 .i64 .i64 m (by omega) wr;have cA:=my (base:=w.heap.size+1) eB rfl rfl m (by omega) wr (by have Y:=K.size;have h2:=(aR.1 hB).1;have h3:=(X.lt _ rfl).2;omega);have O:=(Fr.refl wr).alloc (.cells (madeCells #[eB.z] m) eB.e);generalize hW:wr.alloc (.cells (madeCells #[eB.z] m) eB.e)=W at *;have HW:=ad hW;clear hW;have f3:(i:Int)<R:=(by omega);have f4:(0:Int)<G.length:=(by omega);have cG:(Instr.makeSlice 29 (.int .i64 m) (.int .i64 m)).run Tryz.prog wr=.ok (.slice (some ⟨wr.heap.size,0,none⟩) m m) W:=bB;clear bB;go_wp2_with fail;have Z:=K.trans O;have ca:=O.heap hB;have dc:=X.fr O;have dd:Hid (∀ t (h:t<o.length),t<i->Ow W (w.heap.size+1) eB o[t].v (dx M d.length t d m d.length)):=fun t h ht=>(HP.out t h ht).fr O;clear X hB K O HP J e0 cG HW;go_loopw [7,26] (fun sv jv wr=>∃ (j:Nat),j<=d.length/\jv=N j/\Ow wr (w.heap.size+1) eB sv (dx M d.length i d m j)/\Fr W wr) (fun _ jv _=>d.length - (intOf jv).toNat);case atStart=>exact⟨0,ap _,rfl,cA,Fr.refl W⟩
    case round=>
     obtain⟨j,hj,rfl,Q,y⟩:=hrel;have aa:=ad (c5.out i j hj);obtain⟨z,A,cb⟩:=Q.shape';rw [aa.out]at cb;subst cb;by_cases ba:j<d.length
     · have J:=U.fr (Z.trans y);obtain⟨b1,f6,f7,dk,e1⟩:=J.1.cell1 (fun(h:Hd)=>h.v) rfl j (by omega);have bb:=J.2.2 j (by omega) ba;have bc:=hl _ (aH (l:=d) (n:=j) ba);have HN:Hid (dx M d.length i d m (j+1)=iO (dx M d.length i d m j) (M[i*d.length+j]'(by rw [ac.out];have:=cW d.length (show i+1<=R by omega);rw [cr]at this;omega)).toNat d[j]):=(by show _=_;rw [dx,kA M _ _ (by rw [ac.out];have:=cW d.length (show i+1<=R by omega);rw [cr]at this;omega),kA d j _ ba]);have dr:i*d.length+j<M.length:=(by rw [ac.out];have:=cW d.length (show i+1<=R by omega);rw [cr]at this;omega);have d0:=hM.fr (Z.trans y);obtain⟨b2,ga,gb,d1,e2⟩:=d0.cell1 (fun c=>Fk.u8 c) rfl (i*d.length+j) dr;have ge:IntKind.i64.wrap ((i:Int)*(d.length:Int))=((i*d.length:Nat):Int):=(by rw [oxQb];exact ar _ (by rw [<- oxQb];omega));obtain⟨aj,cj,bd,_⟩:=bb.shape;generalize G[j]'(by omega)=d2 at *;generalize d3:d[j]=dj at *;clear d3;generalize M[i*d.length+j]=c at *;generalize dx M d.length i d m j=ch at *;generalize i*d.length=P at *;rw [bc]at bd;obtain⟨d4,cl,d5⟩:=d2;simp only [Hd.v,ed]at bd;obtain⟨rfl,rfl,rfl⟩:=bd;simp only [Hd.v]at e1 bb;cases dk;cases d1;have T:=y.heap ca;have k0:=ae T 1 rfl;have k1:=ae T 2 rfl;have i1:(0:Int)<=j:=(by omega);have i2:(j:Int)<G.length:=(by omega);have g1:IntKind.i64.wrap ((P:Int)+j)=(P:Int)+j:=ar _ (by omega);have i3:(0:Int)<=(P:Int)+j:=(by omega);have i4:(P:Int)+j<M.length:=(by omega);have i5:((P:Int)+j).toNat=P+j:=(by omega);have cm:=ad bc;clear bc;have HA:=ad (fun W1 (Y:af W1 eB (.slice z cl A) ch) (h2:af W1 eB (.slice d4 cl d5) dj)=>L6 _ _ ch dj c.toNat (kH c) W1 Y h2 (by rw [aa.out,cm.out]) (by rw [aa.out];exact hL));by_cases dT:c.toNat=0
       · have g5:(c.toNat:Int)=0:=(by omega);go_wp2_with fail;go_roundw;case rel=>exact⟨j+1,by omega,by go_num,by rw [HN.out,dT,IZ _ _ (by rw [aa.out,cm.out])];exact Q,y⟩
         case measure=>simp [intOf];omega
       · have g7:((c.toNat:Int) != 0)=true:=(by rw [bne_iff_ne];omega);have g8:¬(c.toNat:Int)=0:=(by omega);go_wp2_with fail;refine(HA.out _ Q.see bb).mono ?_;rintro e w1 ⟨v1,rfl,ec,V⟩;go_wp2_with fail;go_roundw;case rel=>exact⟨j+1,by omega,by go_num,by rw [HN.out];exact ec.rebase (by have:=(Z.trans y).size;have:=(aR.1 T).1;omega),y.trans V⟩
         case measure=>simp [intOf];omega
     · obtain rfl:j=d.length:=(by omega);have i1:(0:Int)<=i:=(by omega);have ef:¬((d.length:Int)<G.length):=(by omega);have cn:=Z.trans y;have co:i<o.length:=(by omega);have bk:=dc.fr y;have hu:=bk.cellAt (fun(h:Hd)=>h.v) rfl i co;have er:=bk.set (fun(h:Hd)=>h.v) rfl i co ⟨z,m,A⟩ (.slice z m A) rfl;obtain⟨k0,k1⟩:=hu;generalize cp:o[i].v=pv at *;have gO:=ad cp;clear cp;obtain⟨_,ha,hb,cs,_⟩:=bk.parts;have T:=y.heap ca;have es:Hid (∀ t (h:t<(o.set i ⟨z,m,A⟩).length),t<i+1->Ow (wr.setCell ⟨w.heap.size+1,i,none⟩ (.slice z m A)) (w.heap.size+1) eB (o.set i ⟨z,m,A⟩)[t].v (dx M d.length t d m d.length)):=by
        intro t h ht;have hT:aP.e≠eB.e:=(by decide);by_cases cv:t=i;· subst cv;rw [List.getElem_set_self];exact Q.chg (aw wr _ _) (fun q hq e=>Q.ne_cells cs hT (by rw [hq,e]))
        · rw [List.getElem_set_ne (eT cv)];rw [lx]at h;have ho:=(dd.out t h (by omega)).fr y;exact ho.chg (aw wr _ _) (fun q hq e=>ho.ne_cells cs hT (by rw [hq,e]))
       have ev:Fr w (wr.setCell ⟨w.heap.size+1,i,none⟩ (.slice z m A)):=db cn (by omega) cn.size;have cy:(wr.setCell ⟨w.heap.size+1,i,none⟩ (.slice z m A)).heap[w.heap.size]? = some (.cells #[N R,N d.length,.slice D M.length F] 163 (0,0)):=(by rw [md _ _ _ _ (by simp)];exact T);have e3:=ad cy;have bn:=ad I;clear cy I;go_wp2_with fail;go_roundw;case rel=>exact⟨i+1,_,by omega,by go_num,er,by rw [lx];exact bn.out,es,e3.out,ev⟩
       case measure=>simp [intOf];omega
  · obtain rfl:i=R:=(by omega);have ef:¬((i:Int)<i):=(by omega);have bn:=ad I;clear I;go_wp2_with fail;go_ret;have I:=bn.out;refine⟨.slice (some ⟨w.heap.size+1,0,none⟩) i i,rfl,o,X.rebase (by omega),⟨by rw [sQ];exact I,fun t Y h2=>?_⟩,K⟩;rw [wO M d.length i d L t (by omega)];exact(HP.out t Y (by omega)).rebase (by omega)
theorem qC(w:World)(g:Nat)(d:Array Value)(e:Array Value)(t:TypeId)(h:w.heap[g]? = some (.cells e t (0,0))):(w.setRow g d).heap[g]? = some (.cells d t (0,0)):=by
 simp [World.setRow,Array.getElem?_modify,h]
def jC(m:Nat)(d:List (List UInt8))(L:Nat):List (List UInt8):=j6 (br d.length m 0) d.length m d L
theorem KG(m:Nat)(y:Value)(I:List Hd)(d:List (List UInt8))(L:Nat)(w:World)(z:bY w aP eB y I d)
  (hC:1<=d.length) (hm:d.length+m<=255) (hl:∀ p∈d,p.length=L) (hL:L<=1000000) :
  Calls Tryz.prog 72 #[N m,y] w fun e w'=>∃ v,e=.returned (.tuple #[v,.int .i64 0])/\∃ J,Ow w' w.heap.size aP v J/\ck w' w.heap.size eB J (jC m d L)/\Fr w w':=by
 obtain⟨da,bb,O,bc,bd,bf⟩:=z.1.shape;have Q:=AE z hl;have R:=z.2.1;have Y:=ad (DW d.length m hC hm);have Z:=ad (fun W h=>IW y I L W h Q);have HC:=ad (Ls d.length m hC hm);have HT:=ad (fun W M (h1:af W eB M (br d.length m 0)) (h2:bY W aP eB y I d)=>Cu (br d.length m 0) m M y I d L W h1 h2 hC (by omega) (by omega) (by rw [rH];omega) hl hL);rw [R]at O;have av:=z.1;clear R hl Q;unfold jC;generalize j6 (br d.length m 0) d.length m d L=bk at *;subst O;go_enter Tryz.func72, Tryz.ntmps72;go_wp2_with fail;refine(Y.out _).mono ?_;rintro e w1 ⟨rfl,rfl⟩;go_wp2_with fail;refine(Z.out _ av).mono ?_;rintro e w2 ⟨rfl,rfl⟩;go_wp2_with fail;refine(HC.out _).mono ?_;rintro e o ⟨M,rfl,T,K⟩;unfold lf;have U:(Tryz.prog.info? 163).map (·.size)=some 3:=by kernel_rfl
 obtain⟨D,F,rfl⟩:=T.shape';have a0:(#[N m,N d.length,.slice D (br d.length m 0).length F]:Array Value).all (·.oneCell')=true:=by rw [kjQb];rfl
 have V:=au o (.cells #[.int .i64 0,.int .i64 0,.slice none 0 0] 163) _ rfl;have a1:=qC _ _ #[N m,N d.length,.slice D (br d.length m 0).length F] _ _ V;have G:Fr o ((o.alloc (.cells #[.int .i64 0,.int .i64 0,.slice none 0 0] 163)).setRow o.heap.size #[N m,N d.length,.slice D (br d.length m 0).length F]):=ak.below ((Fr.refl o).alloc _) (fP _ _ _) (by simp) (fun q hq=>by rw [hq];exact ag _);have a3:=T.see.fr G;generalize (br d.length m 0).length=X at *;go_wp2_with (first | (refine gG rfl 163 (.tmp 6) (.tmp 23) rfl o.heap.size #[N m,N d.length,.slice D X F] rfl rfl 163 _ V U rfl a0 ?_) | (refine iQ rfl 163 (.tmp 6) rfl o.heap.size rfl 163 #[N m,N d.length,.slice D X F] (0,0) _ a1 Tryz.underlying163 rfl U ?_));refine(HT.out _ _ a3 ((z.fr K).fr G)).mono ?_;rintro e w5 ⟨v5,rfl,J,a5,a6,a7⟩;go_wp2_with fail;exact b6Qb (v:=.tuple #[v5,.int .i64 0]) (by simp [results,Tryz.results72,go_sem, *]) rfl ⟨_,rfl,J,a5.rebase (by have:=(K.trans G).size;omega),a6.rebase (by have:=(K.trans G).size;omega),(K.trans G).trans a7⟩
theorem DH(i R C j:Nat)(d:i<R)(e:j<C):i*C+j<R*C:=by
 have:=cW C (show i+1<=R by omega);rw [cr]at this;omega
theorem Jq (M : List UInt8) (R : Nat) (mv dv : Value) (A : List Hd) (d : List (List UInt8)) (L : Nat) (w : World) (hM : af w eB mv M) (J : bY w aP eB dv A d)
    (hC:1<=d.length) (hC2:d.length<=255) (hR:R<=255) (hMl:M.length=R*d.length) (hl:∀ p∈d,p.length=L) (hL:L<=1000000) :
    Calls Tryz.prog 191 #[.agg #[N R,N d.length,mv],dv] w fun e w'=>∃ v,e=.returned v/\∃ m,Ow w' w.heap.size aP v m/\ck w' w.heap.size eB m (j6 M d.length R d L)/\Fr w w':=by
  obtain⟨da,d4,cj,d5,cl,d6⟩:=J.1.shape;obtain⟨Q,T,cm,d7,cn,d8⟩:=hM.shape;subst cj cm;unfold maxLen at cl cn;have d9:A.length<=d.length:=gZ J.2.1;have dT:d.length<=A.length:=gZ J.2.1.symm;have ec:R*d.length<=255*255:=b7 hR hC2;have bb:Hid (∀ i,(dx M d.length i d L d.length).length=L):=fun i=>nj M d.length i d L _ hl (ag _);have co:Hid (∀ i n (h:n<(dx M d.length i d L d.length).length),(dx M d.length i d L d.length)[n]=UInt8.ofNat (gm M d.length i d n d.length)):=fun i n h=>DL M d.length i d L n d.length hl (ag _) (by rw [bb.out]at h;exact h);have cp:=ad hMl;clear hMl;have bc:(w.alloc (.cells #[N R,N d.length,.slice Q M.length T] 163)).heap[w.heap.size]? = some (.cells #[N R,N d.length,.slice Q M.length T] 163 (0,0)):=au _ _ _ rfl;have bd:Fr w (w.alloc (.cells #[N R,N d.length,.slice Q M.length T] 163)):=(Fr.refl w).alloc _;go_enter Tryz.func191, Tryz.ntmps191;go_wp2_with fail;go_loopw [5,6] (fun ov Z wr=>∃ (i:Nat) (m:List Hd),i<=R/\Z=N i/\Ow wr (w.heap.size+1) aP ov m/\Hid (m.length=i)/\Hid (∀ t (h:t<m.length),Ow wr (w.heap.size+1) eB m[t].v (dx M d.length t d L d.length))/\wr.heap[w.heap.size]? = some (.cells #[N R,N d.length,.slice Q M.length T] 163 (0,0))/\Fr w wr) (fun _ Z _=>R - (intOf Z).toNat);case atStart=>exact⟨0,[],ap _,rfl,Ow.nil,rfl,fun t h=>by simp at h,bc,bd⟩
  case round=>
    clear bc bd;obtain⟨i,m,hi,rfl,aa,U,HP,D,G⟩:=hrel;have k0:=ae D 0 rfl;by_cases ct:i<R
    · have ek:(i:Int)<R:=(by omega);have K:=ad (bb.out i);have cx:=ad (co.out i);generalize wr=W at *;have cy:w.heap.size+1<=W.heap.size:=(by have:=(aR.1 D).1;omega);go_wp2_with fail;go_loopw [7,8] (fun sv nv wr=>∃ (n:Nat),n<=L/\nv=N n/\Ow wr W.heap.size eB sv ((dx M d.length i d L d.length).take n)/\Fr W wr) (fun _ nv _=>L - (intOf nv).toNat);case atStart=>exact⟨0,ap _,rfl,by rw [gH];exact Ow.nil,Fr.refl W⟩
      case round=>
        obtain⟨n,hn,rfl,V,o⟩:=hrel;generalize wr=W0 at *;replace D:=o.heap D;clear k0;have k0:=ae D 0 rfl;have bn:=J.fr (G.trans o);obtain⟨b0,ev,e4,c1,e0⟩:=bn.1.cell1 (fun(h:Hd)=>h.v) rfl 0 (by omega);have bu:=bn.2.2 0 (by omega) (by omega);have bv:=hl _ (aH (l:=d) (n:=0) (by omega));obtain⟨a0,c0,ac,_⟩:=bu.shape;generalize A[0]'(by omega)=h0 at *;rw [bv]at ac;clear bv bu;obtain⟨e7,F,e9⟩:=h0;simp only [Hd.v,ed]at ac;obtain⟨rfl,rfl,rfl⟩:=ac;simp only [Hd.v]at e0;cases c1;rw [cX]at e0;have fa:(0:Int)<A.length:=(by omega);by_cases bx:n<F
        · have fb:(n:Int)<F:=(by omega);have HN:Hid ((dx M d.length i d F d.length).take (n+1)=(dx M d.length i d F d.length).take n++[UInt8.ofNat (gm M d.length i d n d.length)]):=(by show _=_;rw [cL (by rw [K.out];exact bx),cx.out n (by rw [K.out];exact bx)]);have c5:Hid (((dx M d.length i d F d.length).take n).length=n):=(by show _=_;rw [aV,K.out];omega);go_wp2_with fail;go_loopw [9,10] (fun cv jv wr=>∃ (j:Nat),j<=d.length/\jv=N j/\cv=B8 (gm M d.length i d n j)/\Fr W0 wr) (fun _ jv _=>d.length - (intOf jv).toNat);case atStart=>exact⟨0,ap _,rfl,rfl,Fr.refl W0⟩
          case round=>
            obtain⟨j,hj,rfl,rfl,I⟩:=hrel;have bz:=I.heap D;have k1:=ae bz 1 rfl;have b4:=Ai M d.length i d n j;by_cases X:j<d.length
            · have b5:=J.fr ((G.trans o).trans I);obtain⟨b1,fl,fm,c7,e1⟩:=b5.1.cell1 (fun(h:Hd)=>h.v) rfl j (by omega);have b8:=b5.2.2 j (by omega) X;have bA:=hl _ (aH (l:=d) (n:=j) X);have av:i*d.length+j<M.length:=(by rw [cp.out];exact DH i R d.length j ct X);have c9:Hid (gm M d.length i d n (j+1)=gm M d.length i d n j ^^^ aO (M[i*d.length+j]'av).toNat (d[j][n]'(by omega)).toNat):=(by show _=_;rw [gm,kA M _ _ av,kA d j _ X,kA _ n _ (by omega)]);have cA:=hM.fr ((G.trans o).trans I);obtain⟨b2,fr,fs,cF,e2⟩:=cA.cell1 (fun c=>Fk.u8 c) rfl (i*d.length+j) av;have f0:IntKind.i64.wrap ((i:Int)*(d.length:Int))=((i*d.length:Nat):Int):=(by rw [oxQb];exact ar _ (by rw [<- oxQb];omega));obtain⟨b3,f2,f3,a1,e3⟩:=b8.cell1 (fun c=>Fk.u8 c) rfl n (by omega);generalize A[j]'(by omega)=cG at *;generalize d[j][n]'(by omega)=y at *;generalize M[i*d.length+j]=c at *;generalize gm M d.length i d n j=dc at *;generalize i*d.length=P at *;rw [bA]at a1;clear bA b8;obtain⟨f5,f6,f7⟩:=cG;simp only [Hd.v,ed]at a1;obtain⟨rfl,rfl,rfl⟩:=a1;simp only [Hd.v]at e1;cases c7;cases cF;have k2:=ae bz 2 rfl;have i1:(0:Int)<=j:=(by omega);have i2:(j:Int)<A.length:=(by omega);have gc:(j:Int)<d.length:=(by omega);have ge:IntKind.i64.wrap ((P:Int)+j)=(P:Int)+j:=ar _ (by omega);have i3:(0:Int)<=(P:Int)+j:=(by omega);have i4:(P:Int)+j<M.length:=(by omega);have i5:((P:Int)+j).toNat=P+j:=(by omega);have i6:(0:Int)<=n:=(by omega);have bB:=kH c;have dd:=kH y;have hx:=mT dc (aO c.toNat y.toNat) b4 (n9 _ _ bB);have di:Hid (∀ W,Calls Tryz.prog 239 #[B8 c.toNat,B8 y.toNat] W fun e w'=>e=.returned (B8 (aO c.toNat y.toNat))/\w'=W):=fun W=>(AT c.toNat y.toNat bB dd W).mono fun e w' ⟨h1,h2⟩=>⟨h1,h2.symm⟩;generalize aO c.toNat y.toNat=z at *;go_wp2_with fail;go_quiet ((go_at_call 239;exact Calls.quiet_of_same (di.out _)));go_wp2_with fail;go_roundw;case rel=>exact⟨j+1,by omega,by go_num,by rw [c9.out],I.drewN _⟩
              case measure=>simp [intOf];omega
            · obtain rfl:j=d.length:=(by omega);have g3:¬((d.length:Int)<d.length):=(by omega);have ca:=V.fr I;have a3:=o.trans I;have dj:Hid ((#[B8 (gm M d.length i d n d.length)]:Array Value).toList=eB.cells [UInt8.ofNat (gm M d.length i d n d.length)]):=lN _ b4;have dk:((dx M d.length i d F d.length).take n).length+1<=2147483648:=(by rw [c5.out];omega);go_wp2_with (at_builtin;refine aM eB rfl (.tmp 51) (.tmp 53) 29 rfl Tryz.underlying29 W.heap.size rfl ca [UInt8.ofNat (gm M d.length i d n d.length)] _ _ _ dj.out rfl rfl dk a3.size ?_);intro v' w4 q;go_wp2_with fail;go_roundw;case rel=>exact⟨n+1,by omega,by go_num,by rw [HN.out];exact q.own,q.below ca a3 (ag _) a3.size⟩
              case measure=>simp [intOf];omega
        · obtain rfl:n=F:=(by omega);have dl:¬((n:Int)<n):=(by omega);rw [eo (by rw [K.out];omega)]at V;obtain⟨a4,a5,cb⟩:=V.shape';rw [K.out]at cb;subst cb;have O:=aa.fr o;have Y:=ad U.out;go_wp2_with (at_builtin;refine aM aP rfl (.tmp 55) (.tmp 57) 72 rfl Tryz.underlying72 (w.heap.size+1) rfl O [⟨a4,n,a5⟩] _ _ _ rfl rfl rfl (by have:=Y.out;simp;omega) (by have:=o.size;omega) ?_);intro v' w4 q;have hT:aP.e≠eB.e:=(by decide);have dr:=b9 V O q hT;have d0:Hid (∀ t (h:t<(m++[⟨a4,n,a5⟩]:List Hd).length),Ow w4 (w.heap.size+1) eB (m++[⟨a4,n,a5⟩]:List Hd)[t].v (dx M d.length t d n d.length)):=by
            intro t h;by_cases ht:t<m.length;· rw [eW ht];exact b9 ((HP.out t ht).fr o) O q hT
            · obtain rfl:t=i:=(by have:=Y.out;simp at h;omega);rw [gu (by omega)];simp only [Y.out,e8,mOQb];exact dr.rebase cy
          have d1:Fr w w4:=q.below O (G.trans o) (by omega) (G.trans o).size;have d2:=q.chg'.heap D (fun e=>by have:=(O.lt _ e).1;omega);go_wp2_with fail;go_roundw;case rel=>exact⟨i+1,_,by omega,by go_num,q.own,by show _=_;rw [an,Y.out];rfl,d0,d2,d1⟩
          case measure=>simp [intOf];omega
    · obtain rfl:i=R:=(by omega);have dl:¬((i:Int)<i):=(by omega);obtain⟨g4,g5,ch⟩:=aa.shape';rw [U.out]at ch;subst ch;go_wp2_with fail;go_ret;refine⟨_,rfl,m,aa.rebase (by omega),⟨by rw [sQ];exact U.out,fun t h1 h2=>?_⟩,G⟩;rw [wO M d.length i d L t (by have:=U.out;omega)];exact(HP.out t h1).rebase (by omega)
theorem J1 (m : Nat) (z : Value) (I : List Hd) (d : List (List UInt8)) (L : Nat) (w : World) (y : bY w aP eB z I d)
    (hC:1<=d.length) (hm:d.length+m<=255) (hl:∀ p∈d,p.length=L) (hL:L<=1000000) :
    Calls Tryz.prog 131 #[N m,z] w fun e w'=>∃ v,e=.returned (.tuple #[v,.int .i64 0])/\∃ J,Ow w' w.heap.size aP v J/\ck w' w.heap.size eB J (jC m d L)/\Fr w w':=by
  obtain⟨da,bc,Q,bd,bf,bk⟩:=y.1.shape;have R:=AE y hl;have T:=y.2.1;have Z:=ad (AU d.length m hC hm);have HA:=ad (fun W h=>K2 z I L W (by rw [y.2.1];exact hC) h R);have HC:=ad (Ky d.length m hC hm);have HT:=ad (fun W O (h1:af W eB O (br d.length m 0)) (h2:bY W aP eB z I d)=>Jq (br d.length m 0) m O z I d L W h1 h2 hC (by omega) (by omega) (by rw [rH];omega) hl hL);rw [T]at Q;have a0:=y.1;clear T hl R;unfold jC;generalize j6 (br d.length m 0) d.length m d L=bm at *;subst Q;go_enter Tryz.func131, Tryz.ntmps131;go_wp2_with fail;refine(Z.out _).mono ?_;rintro e w1 ⟨rfl,rfl⟩;go_wp2_with fail;refine(HA.out _ a0).mono ?_;rintro e w2 ⟨rfl,K⟩;go_wp2_with fail;refine(HC.out _).mono ?_;rintro e o ⟨O,rfl,U,M⟩;unfold lf;have V:(Tryz.prog.info? 163).map (·.size)=some 3:=(by kernel_rfl);obtain⟨D,F,rfl⟩:=U.shape';have a1:(#[N m,N d.length,.slice D (br d.length m 0).length F]:Array Value).all (·.oneCell')=true:=(by rw [kjQb];rfl);have X:=au o (.cells #[.int .i64 0,.int .i64 0,.slice none 0 0] 163) _ rfl;have a2:=qC _ _ #[N m,N d.length,.slice D (br d.length m 0).length F] _ _ X;have G:Fr o ((o.alloc (.cells #[.int .i64 0,.int .i64 0,.slice none 0 0] 163)).setRow o.heap.size #[N m,N d.length,.slice D (br d.length m 0).length F]):=ak.below ((Fr.refl o).alloc _) (fP _ _ _) (by simp) (fun q hq=>by rw [hq];exact ag _);have a4:=U.see.fr G;generalize (br d.length m 0).length=Y at *;go_wp2_with (first | (refine gG rfl 163 (.tmp 6) (.tmp 23) rfl o.heap.size #[N m,N d.length,.slice D Y F] rfl rfl 163 _ X V rfl a1 ?_) | (refine iQ rfl 163 (.tmp 6) rfl o.heap.size rfl 163 #[N m,N d.length,.slice D Y F] (0,0) _ a2 Tryz.underlying163 rfl V ?_));refine(HT.out _ _ a4 (((y.fr K).fr M).fr G)).mono ?_;rintro e w5 ⟨v5,rfl,J,a6,a7,ba⟩;go_wp2_with fail;exact b6Qb (v:=.tuple #[v5,.int .i64 0]) (by simp [results,Tryz.results131,go_sem, *]) rfl ⟨_,rfl,J,a6.rebase (by have:=((K.trans M).trans G).size;omega),a7.rebase (by have:=((K.trans M).trans G).size;omega),((K.trans M).trans G).trans ba⟩
end Go.Proofs.YtdamnfpigajmoaaGreatDoor
