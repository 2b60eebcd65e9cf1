/- Parts of the proof of ThreeOpens: E5 Ci Cj. -/
import Derived.Test.YtijghcbpfcjjnaaGreatDoorM16
import Derived.Test.YtijghcbpfcjjnaaGreatDoorShelf
import Derived.Lib.ItoaNum
import Derived.Test.YtijghcbpfcjjnaaGreatDoorM11
set_option linter.unusedVariables false
set_option linter.unusedSectionVars false
set_option linter.unusedSimpArgs false
set_option maxHeartbeats 8000000
namespace Go.Proofs.YtijghcbpfcjjnaaGreatDoor
open Go.RowKit Go.Fk
theorem bitLen_log(q:Nat)(h1:1<=q)(h2:q<2 ^ 64):Lib.bitLen q=Nat.log2 q+1:=by
 obtain⟨a,b,c⟩:=Lib.bitLenAux_bounds 64 q h2 (by omega)
 show Lib.bitLenAux 64 q=_
 generalize Lib.bitLenAux 64 q=k at *
 obtain⟨j,rfl⟩:∃ j,k=j+1:=⟨k - 1,by omega⟩
 rw [log2_le q j (by simpa using b) c]
set_option maxRecDepth 100000
theorem ewidth_any(bound n:Nat)(hb:bound<=20000)(hn:1<=n)(hq:n<=bound)(w:World) :
  Calls Tryz.prog 162 #[N bound,N n] w fun e w'=>e=.returned (N (Nat.log2 (bound / n)))/\Fr w w':=by
 have hq1:1<=bound / n:=Nat.div_pos hq (by omega)
 have hq2:bound / n<=20000:=Nat.le_trans (Nat.div_le_self _ _) hb
 have hd:(bound:Int).tdiv n=((bound / n:Nat):Int):=by rw [Int.tdiv_eq_ediv_of_nonneg (by omega)];exact(Int.natCast_ediv _ _).symm
 have hd2:(bound:Int) / n=((bound / n:Nat):Int):=(Int.natCast_ediv _ _).symm
 have hn0:((n:Int) == 0)=false:=by simp;omega
 have hn1:n≠0:=by omega
 have hlog:=bitLen_log (bound / n) hq1 (by omega)
 generalize bound / n=q at *
 have hL:=Tryz.bits_Len (q:Int) w (by omega) (by omega)
 rw [Int.toNat_natCast,hlog]at hL
 have HL:=hid hL
 have hl14:Nat.log2 q<=14:=by
  refine Nat.le_of_lt_succ ((Nat.log2_lt (by omega)).2 ?_)
  omega
 clear hlog hL
 generalize Nat.log2 q=m at *
 go_enter Tryz.func162, Tryz.ntmps162
 go_wp2_with fail
 refine HL.out.mono ?_
 rintro e w1 ⟨rfl,rfl⟩
 go_wp2_with fail
 go_ret
 exact⟨by first | rfl | go_num,Fr.refl _⟩
set_option maxRecDepth 512
def rowR(bound m:Nat)(r:List UInt8):List Nat × Nat × Nat:=
 if 8*r.length<m*Nat.log2 (bound / m)then([],0,1)
 else if (efGo bound (Nat.log2 (bound / m)) r m 0 (m * Nat.log2 (bound / m)) 0 0 []).2.2 = 0 then
  (if padB r (efGo bound (Nat.log2 (bound / m)) r m 0 (m*Nat.log2 (bound / m)) 0 0 []).2.1 then((efGo bound (Nat.log2 (bound / m)) r m 0 (m*Nat.log2 (bound / m)) 0 0 []).1,((efGo bound (Nat.log2 (bound / m)) r m 0 (m*Nat.log2 (bound / m)) 0 0 []).2.1+7) / 8,0)else([],0,2))
 else([],0,(efGo bound (Nat.log2 (bound / m)) r m 0 (m*Nat.log2 (bound / m)) 0 0 []).2.2)
theorem efR_row(bound:Nat)(b:List UInt8):efR bound b=if(limL bound b).2.2=0 then(if(limL bound b).1=0 then([],(limL bound b).2.1,0)else if(rowR bound (limL bound b).1 (b.drop (limL bound b).2.1)).2.2=0 then((rowR bound (limL bound b).1 (b.drop (limL bound b).2.1)).1,(limL bound b).2.1+(rowR bound (limL bound b).1 (b.drop (limL bound b).2.1)).2.1,0)else([],0,(rowR bound (limL bound b).1 (b.drop (limL bound b).2.1)).2.2))else([],0,(limL bound b).2.2):=by
 unfold efR rowR
 split
 · split
   · rfl
   · split
     · simp
     · split
       · split
         · simp
         · simp
       · rename_i h;simp only [if_neg h]
 · rfl
theorem or_i64n(a b:Nat)(ha:a<9223372036854775808)(hb:b<9223372036854775808):bits .or .i64 (a:Int) (b:Int)=((a ||| b:Nat):Int):=by
 have hx:a ||| b<2 ^ 63:=Nat.or_lt_two_pow (by omega) (by omega)
 show IntKind.i64.wrap ((BitVec.ofInt 64 (a:Int) ||| BitVec.ofInt 64 (b:Int)).toNat:Int)=_
 rw [BitVec.toNat_or,of_int 64 a (by omega),of_int 64 b (by omega),wrap_i64 _ (by omega)]
theorem shl_or(h k x:Nat)(hk:k<=14)(hh:h<=10000000)(hx:x<2 ^ k):IntKind.i64.wrap ((h:Int)*2 ^ k)=((h*2 ^ k:Nat):Int)/\bits .or .i64 ((h*2 ^ k:Nat):Int) (x:Int)=((h*2 ^ k+x:Nat):Int)/\h*2 ^ k+x<=200000000000:=by
 have hp:(2:Nat) ^ k<=2 ^ 14:=Nat.pow_le_pow_right (by omega) hk
 have h2:h*2 ^ k<=10000000*16384:=Nat.mul_le_mul hh hp
 refine⟨?_,?_,by omega⟩
 · rw [show(h:Int)*2 ^ k=((h*2 ^ k:Nat):Int) by simp];exact IntWalk.i64_in _ (by omega)
 · rw [or_i64n _ _ (by omega) (by omega)]
   congr 1
   rw [Nat.or_comm,leN_or _ _ _ hx,Nat.add_comm]
theorem efGo_step(bound w:Nat)(r:List UInt8)(m i a high lo:Nat)(ids:List Nat)(h:i<m):efGo bound w r (m - i) i a high lo ids=if(unaR r a).2.2=0 then(if(high+(unaR r a).1)*2 ^ w+Fk.numAt r (w*i) w<lo then([],0,2)else if bound<=(high+(unaR r a).1)*2 ^ w+Fk.numAt r (w*i) w then([],0,8)else efGo bound w r (m - (i+1)) (i+1) (unaR r a).2.1 (high+(unaR r a).1) ((high+(unaR r a).1)*2 ^ w+Fk.numAt r (w*i) w+1) (ids++[(high+(unaR r a).1)*2 ^ w+Fk.numAt r (w*i) w]))else([],0,1):=by
 rw [show m - i=(m - (i+1))+1 by omega,efGo]
theorem unaR_er(l:List UInt8)(a:Nat)(h:¬(unaR l a).2.2=0):(unaR l a).2.2=1:=by
 unfold unaR at *
 cases hx:unGo l (8*l.length - a) a with
 | none=>rfl
 | some i=>rw [hx]at h;exact absurd rfl h
theorem mod8(n a:Nat)(hn:n % 8=0)(h:a<=n):(n - a) % 8=(8 - a % 8) % 8/\n / 8 - (n - a) / 8=(a+7) / 8:=by omega
theorem BrF.chg{w w':World}{B base n a:Nat}{l:List UInt8}{G:Nat->Prop}(h:BrF w B base l n a)(hc:Chg G w w')(hB:¬G B)(hv:∀ v,Ow w base eB v l->∀ k,v.ownBlock=some k->¬G k):BrF w' B base l n a:=by
 obtain⟨⟨v,h1,h2⟩,h3,h4⟩:=h
 exact⟨⟨v,hc.heap h1 hB,h2.chg hc (hv v h2)⟩,h3,h4⟩
theorem BrF.box{w:World}{B base n a:Nat}{l:List UInt8}(h:BrF w B base l n a):∃ cs,w.heap[B]?=some (.cells cs 355 (0,0)):=by obtain⟨⟨v,h1,_⟩,_⟩:=h;exact⟨_,h1⟩
theorem BrF.beside{w w':World}{B base n a b g K:Nat}{l:List UInt8}{hv lv:Value}{hs ls:List Nat}(h:BrF w B base l n a)(hP:PartsT w 263 b g K hv lv hs ls)(hBg:B≠g)(hBb:B<b)
  (hc:Chg (fun k=>k=g\/hv.ownBlock=some k\/lv.ownBlock=some k) w w'):BrF w' B base l n a:=by
 refine h.chg hc (fun e=>?_) (fun v hO k hk e=>?_)
 · rcases e with e | e | e
   · exact hBg e
   · have:=(hP.hi.lt _ e).1;omega
   · have:=(hP.lo.lt _ e).1;omega
 · rcases e with e | e | e
   · exact hO.ne_cells hP.at0 (by decide) (by rw [hk,e])
   · rcases own_ne hO hP.hi (by decide)with h | h
     · rw [h]at hk;cases hk
     · exact h (hk.trans e.symm)
   · rcases own_ne hO hP.lo (by decide)with h | h
     · rw [h]at hk;cases hk
     · exact h (hk.trans e.symm)
theorem low_beside{w w':World}{c b g K:Nat}{u hv lv:Value}{hs ls L:List Nat}(hO:Ow w c eU u L)(hP:PartsT w 263 b g K hv lv hs ls)(hub:∀ k,u.ownBlock=some k->k<b)
  (hc:Chg (fun k=>k=g\/hv.ownBlock=some k\/lv.ownBlock=some k) w w'):Ow w' c eU u L:=by
 refine hO.chg hc fun k hk e=>?_
 rcases e with e | e | e
 · exact hO.ne_cells hP.at0 (by decide) (by rw [hk,e])
 · rcases own_ne hO hP.hi (by decide)with h | h
   · rw [h]at hk;cases hk
   · exact h (hk.trans e.symm)
 · have:=(hP.lo.lt _ e).1
   have:=hub k hk
   omega
theorem PartsT.beside{w w':World}{B b g K:Nat}{hv lv:Value}{hs ls:List Nat}(hP:PartsT w 263 b g K hv lv hs ls)(hBg:B≠g)(hBb:B<b)(hc:Chg (fun k=>k=B) w w'):PartsT w' 263 b g K hv lv hs ls:=
 ⟨hc.heap hP.at0 (fun e=>hBg e.symm),hP.hi.chg hc (fun k hk e=>by have:=(hP.hi.lt k hk).1;have e:k=B:=e;omega),hP.lo.chg hc (fun k hk e=>by have:=(hP.lo.lt k hk).1;have e:k=B:=e;omega),hP.lt⟩
set_option maxRecDepth 100000
theorem erow_any (bound m : Nat) (hb : bound ≤ 20000) (hm1 : 1 ≤ m) (hm2 : m ≤ bound) (v : Value) (l : List UInt8) (w : World) (hs : See w eB v l) (hl : l.length ≤ 1000000) :
    Calls Tryz.prog 193 #[N bound,N m,v] w fun e w'=>∃ pv,e=.returned (.tuple #[pv,N (rowR bound m l).2.1,.int .i64 ((rowR bound m l).2.2:Int)])/\Fr w w'/\((rowR bound m l).2.2=0->∃ g base hv lv,pv=.pointer (some ⟨g,0,none⟩)/\w.heap.size<=g/\PartsT w' 263 base g (Nat.log2 (bound / m)) hv lv ((rowR bound m l).1.map (· / 2 ^ Nat.log2 (bound / m))) ((rowR bound m l).1.map (· % 2 ^ Nat.log2 (bound / m)))):=by
  have HNew:=hid (BNew_any v l w hs hl)
  have HWd:=hid (fun W=>ewidth_any bound m hb hm1 hm2 W)
  have HLo:=hid (fun B base n k W h hk hbs hB=>lows_any B base n m k l W h hl hk (by omega) hbs hB)
  have HUn:=hid (fun B base n a W h=>bunary_any B base n a l W h hl)
  have HGet:=hid (fun B base n a k W h hk=>Get_any B base n a k l W h hl hk)
  have HLf:=hid (fun B base n a W h=>BLeft_any B base n a l W h hl)
  have HAdd:=hid (@padd_any)
  have HUk:=hid (fun a ha=>unaR_ok l a ha)
  have HR:Hid (rowR bound m l=if 8*l.length<m*Nat.log2 (bound / m)then([],0,1)else if(efGo bound (Nat.log2 (bound / m)) l m 0 (m*Nat.log2 (bound / m)) 0 0 []).2.2=0 then(if padB l (efGo bound (Nat.log2 (bound / m)) l m 0 (m*Nat.log2 (bound / m)) 0 0 []).2.1 then((efGo bound (Nat.log2 (bound / m)) l m 0 (m*Nat.log2 (bound / m)) 0 0 []).1,((efGo bound (Nat.log2 (bound / m)) l m 0 (m*Nat.log2 (bound / m)) 0 0 []).2.1+7) / 8,0)else([],0,2))else([],0,(efGo bound (Nat.log2 (bound / m)) l m 0 (m*Nat.log2 (bound / m)) 0 0 []).2.2)):=rfl
  have hq1:1<=bound / m:=Nat.div_pos hm2 (by omega)
  have hq2:bound / m<=20000:=Nat.le_trans (Nat.div_le_self _ _) hb
  have hk14:Nat.log2 (bound / m)<=14:=by
    refine Nat.le_of_lt_succ ((Nat.log2_lt (by omega)).2 ?_)
    omega
  generalize Nat.log2 (bound / m)=K at *
  generalize rowR bound m l=R at *
  clear hq1 hq2
  obtain⟨a0,cap,hv,_⟩:=hs.shape
  subst hv
  clear hs
  go_enter Tryz.func193, Tryz.ntmps193
  go_wp2_with fail
  refine(HNew.out).mono ?_
  rintro e w1 ⟨Br,rfl,hC1,hf1,hBr⟩
  have hBr1:Br<w1.heap.size:=by obtain⟨cs,h⟩:=hC1.box;exact(Array.getElem?_eq_some_iff.1 h).1
  clear HNew
  go_wp2_with fail
  refine(HWd.out w1).mono ?_
  rintro e w2 ⟨rfl,hf2⟩
  have hb0:(w2.alloc (.cells #[N K,.slice none 0 0,.slice none 0 0] 263)).heap[w2.heap.size]?=some (.cells #[N K,.slice none 0 0,.slice none 0 0] 263 (0,0)):=heap_new _ _ _ rfl
  have hfa:Fr w2 (w2.alloc (.cells #[N K,.slice none 0 0,.slice none 0 0] 263)):=(Fr.refl w2).alloc _
  have hza:(w2.alloc (.cells #[N K,.slice none 0 0,.slice none 0 0] 263)).heap.size=w2.heap.size+1:=by simp
  have hc0:(w2.alloc (.cells #[N K,.slice none 0 0,.slice none 0 0] 263)).cell? ⟨w2.heap.size,0,none⟩=some (N K):=by rw [cell_of_heap hb0];rfl
  have hs12:=hf2.size
  have hs01:=hf1.size
  have hCa:=(hC1.fr hf2).fr hfa
  clear hC1 HWd
  go_wp2_with fail
  generalize w2.alloc (.cells #[N K,.slice none 0 0,.slice none 0 0] 263)=W0 at *
  have hfW:=(hf1.trans hf2).trans hfa
  obtain⟨g,hg⟩:∃ g,g=w2.heap.size:=⟨_,rfl⟩
  rw [<- hg]at hb0 hc0 hza hs12 ⊢
  have HLo1:=hid (HLo.out Br w.heap.size (8*l.length) K W0 hCa hk14 (by omega) (by omega))
  refine(HLo1.out).mono ?_
  rintro e w3 ⟨u,rfl,hno,hyes⟩
  clear HLo HLo1
  by_cases hsh:8*l.length<m*K
  · rw [if_pos hsh]at HR ⊢
    have hq3:=hno hsh
    clear hno hyes
    go_wp2_with fail
    go_ret3
    rw [HR.out]
    exact⟨_,rfl,hfW.trans hq3.fr,fun h=>by cases h⟩
  · rw [if_neg hsh]at HR ⊢
    obtain⟨hOl,hC3,hc3⟩:=hyes (by omega)
    have hBg:Br≠g:=by omega
    have hb3:=hc3.heap hb0 (fun e=>hBg e.symm)
    have hs3:=hc3.size
    have hgW:g<W0.heap.size:=by omega
    have hP3:PartsT w3 263 w3.heap.size g K (.slice none 0 0) (.slice none 0 0) [] []:=⟨hb3,Ow.nil,Ow.nil,by omega⟩
    have hf3:Fr w w3:=(hfW.chg (fun b=>b=Br)).trans hc3 (fun _ _ h=>h) |>.fr (fun k hk e=>by omega)
    have hub:∀ k,u.ownBlock=some k->k<w3.heap.size:=fun k hk=>(hOl.lt k hk).2
    have HLl:=hid (lowR_len l K m)
    have HLa:=hid (lowR_at l K m)
    obtain⟨ua,uc,hu⟩:=hOl.shape'
    rw [HLl.out]at hu
    subst hu
    have hBrB:Br<w3.heap.size:=by omega
    have hgw:w.heap.size<=g:=by omega
    have HS:=hid (efGo_step bound K l m)
    have HNl:=hid (fun i=>numAt_lt l (K*i) K)
    clear hno hyes hb0 hc0 hza hs12 hs01 hCa hfa hfW hb3 hc3 hg hf1 hf2
    generalize hB2:w3.heap.size=B2 at *
    have HB2:=hid hB2
    clear hB2
    obtain⟨E0,hE0⟩:∃ E0,E0=efGo bound K l m 0 (m*K) 0 0 []:=⟨_,rfl⟩
    rw [<- hE0]at HR
    have HE0:Hid (E0=efGo bound K l (m - 0) 0 (m*K) 0 0 []):=hE0
    clear hE0
    have hmK:m*K<=8*l.length:=by omega
    have HmK:=hid hmK
    generalize m*K=mK at *
    go_wp2_with fail
    go_loopw [13,14,47] (fun hv_ wv iv wr=>∃ (i high lo a:Nat) (hv lv:Value) (ids:List Nat),i<=m/\iv=N i/\hv_=N high/\wv=.int .i64 ((lo:Int) - 1)/\high<=20000/\lo<=20000/\ids.length=i/\BrF wr Br w.heap.size l (8*l.length) a/\PartsT wr 263 B2 g K hv lv (ids.map (· / 2 ^ K)) (ids.map (· % 2 ^ K))/\Ow wr W0.heap.size eU (.slice ua m uc) (lowR l K m)/\Fr w wr/\B2<=wr.heap.size/\Hid (E0=efGo bound K l (m - i) i a high lo ids)) (fun _ _ iv _=>m - (intOf iv).toNat)
    case atStart=>exact⟨0,0,0,mK,_,_,[],Nat.zero_le _,rfl,rfl,rfl,by omega,by omega,rfl,hC3,hP3,hOl,hf3,Nat.le_of_eq HB2.out.symm,HE0.out⟩
    case round=>
      clear hC3 hP3 hOl hf3 HE0
      obtain⟨i,high,lo,a,hv,lv,ids,hi,rfl,rfl,rfl,hhi,hlo,hil,hC,hP,hO,hf,hz,HE⟩:=hrel
      by_cases hlt:i<m
      · have hiL:i<(lowR l K m).length:=by rw [HLl.out];exact hlt
        obtain⟨b,off,cp,hv',c0⟩:=hO.see.cell1 (fun n:Nat=>Value.int .u16 (n:Int)) rfl i hiL
        rw [HLl.out]at hv'
        cases hv'
        have d0:wr.cell? ⟨b,off+i,none⟩=some (.int .u16 ((Fk.numAt l (K*i) K:Nat):Int)):=by rw [<- HLa.out i hiL];exact c0
        have HS1:=hid (HS.out i a high lo ids hlt)
        have hxl:=HNl.out i
        have hUa:=HUk.out a hC.le
        have HU1:=hid (HUn.out Br w.heap.size (8*l.length) a wr hC)
        have i1:(0:Int)<=i:=by omega
        have i2:(i:Int)<m:=by omega
        have HEi:Hid (E0=_):=HE.out.trans HS1.out
        have HEr:Hid (¬(unaR l a).2.2=0->(unaR l a).2.2=1):=fun h=>unaR_er l a h
        clear c0 HE HS1 hiL
        generalize Fk.numAt l (K*i) K=x at *
        generalize (unaR l a).1=d at *
        generalize (unaR l a).2.1=a2 at *
        generalize (unaR l a).2.2=er at *
        have HC:=hid hC
        have HP:=hid hP
        have HO:=hid hO
        clear hC hP hO
        go_wp2_with fail
        refine(HU1.out).mono ?_
        rintro e w4 ⟨rfl,hC4,hc4⟩
        have hP4:=HP.out.beside hBg hBrB hc4
        have hO4 := HO.out.chg hc4 (fun k hk e => by
          obtain ⟨cs, h5⟩ := HC.out.box
          exact HO.out.ne_cells h5 (by decide) (by rw [hk, show k = Br from e]))
        have hf4:Fr w w4:=((hf.chg (fun b=>b=Br)).trans hc4 fun _ _ h=>h).fr (fun k hk e=>by omega)
        have hz4:=Nat.le_trans hz hc4.size
        clear HU1 HC HP HO hc4
        by_cases her:er=0
        · rw [if_pos her]at HEi
          subst her
          obtain⟨h2,hh2e⟩:∃ h2,h2=high+d:=⟨_,rfl⟩
          have hh2b:h2<=10000000:=by omega
          have w0:IntKind.i64.wrap ((high:Int)+d)=(h2:Int):=by rw [IntWalk.i64_in _ (by omega),hh2e];simp
          rw [<- hh2e]at HEi
          have HH2:=hid hh2e
          clear hh2e
          obtain⟨w1,w2,w3b⟩:=shl_or h2 K x hk14 hh2b hxl
          have HQ:=hid w3b
          have hKi:¬(K:Int)<0:=by omega
          have w5:IntKind.i64.wrap (x:Int)=(x:Int):=IntWalk.i64_in _ (by have:(2:Nat) ^ K<=2 ^ 14:=Nat.pow_le_pow_right (by omega) hk14;omega)
          have c1:w4.cell? ⟨g,0,none⟩=some (N K):=by rw [cell_of_heap hP4.at0];rfl
          obtain⟨x1,hx1⟩:∃ x1,x1=h2*2 ^ K+x:=⟨_,rfl⟩
          rw [<- hx1]at w2 HEi HQ
          have hhx:h2<=x1:=by
            have hp:=Nat.two_pow_pos K
            have:=Nat.le_mul_of_pos_right h2 hp
            omega
          have HX1:=hid hx1
          clear hx1 w3b hxl
          generalize h2*2 ^ K=y at *
          have hQ:=HQ.out
          by_cases hlo1:x1<lo
          · rw [if_pos hlo1]at HEi
            have HRe:Hid (R=([],0,2)):=by show _=_;rw [HR.out,HEi.out,if_neg (by decide)]
            have k1:(x1:Int)<=(lo:Int) - 1:=by omega
            clear HEi HR hhx
            go_wp2_with fail
            go_ret3
            rw [HRe.out]
            exact⟨_,rfl,hf4,fun h=>by cases h⟩
          · rw [if_neg hlo1]at HEi
            have k1:¬(x1:Int)<=(lo:Int) - 1:=by omega
            by_cases hbd:bound<=x1
            · rw [if_pos hbd]at HEi
              have HRe:Hid (R=([],0,8)):=by show _=_;rw [HR.out,HEi.out,if_neg (by decide)]
              have k2:(bound:Int)<=x1:=by omega
              clear HEi HR hhx
              go_wp2_with fail
              go_ret3
              rw [HRe.out]
              exact⟨_,rfl,hf4,fun h=>by cases h⟩
            · rw [if_neg hbd]at HEi
              have k2:¬(bound:Int)<=x1:=by omega
              have HA:=hid (HAdd.out x1 K (by omega) hk14 B2 g hv lv (ids.map (· / 2 ^ K)) (ids.map (· % 2 ^ K)) w4 hP4 (by rw [List.length_map];omega) (by rw [List.length_map];omega) hz4)
              have HC4:=hid hC4
              have HP4:=hid hP4
              have HO4:=hid hO4
              have hh2:h2<=20000:=by omega
              clear hC4 hP4 hO4 hhx
              go_wp2_with fail
              refine(HA.out).mono ?_
              rintro e w5 ⟨rfl,hv2,lv2,hP5,hc5⟩
              have hC5:=HC4.out.beside HP4.out hBg hBrB hc5
              have hO5:=low_beside HO4.out HP4.out hub hc5
              have hz5:=Nat.le_trans hz4 hc5.size
              have hhv:=fun k (h:hv.ownBlock=some k)=>(HP4.out.hi.lt k h).1
              have hlv:=fun k (h:lv.ownBlock=some k)=>(HP4.out.lo.lt k h).1
              have hgB:=HP4.out.lt
              have hf5 : Fr w w5 := ((hf4.chg (fun k => k = g ∨ hv.ownBlock = some k ∨ lv.ownBlock = some k)).trans hc5 fun _ _ h => h).fr (fun k hk e => by
                rcases e with e | e | e
                · omega
                · have := hhv k e; omega
                · have := hlv k e; omega)
              have HP5:Hid (PartsT w5 263 B2 g K hv2 lv2 ((ids++[x1]).map (· / 2 ^ K)) ((ids++[x1]).map (· % 2 ^ K))):=by
                show PartsT _ _ _ _ _ _ _ _ _
                rw [List.map_append,List.map_append];exact hP5
              clear HA hc5 hhv hlv HP4 HC4 HO4 hP5
              go_wp2_with fail
              go_roundw
              case rel=>exact⟨i+1,h2,x1+1,a2,hv2,lv2,ids++[x1],by omega,by go_num,rfl,by simp,hh2,by omega,by simp;omega,hC5,HP5.out,hO5,hf5,hz5,HEi.out⟩
              case measure=>simp [intOf];omega
        · rw [if_neg her]at HEi
          have her':¬(er:Int)=0:=by omega
          have HRe:Hid (R=([],0,er)):=by
            have h1:=HEr.out her
            show _=_;rw [HR.out,HEi.out,if_neg (by decide),h1]
          clear HEi HR
          go_wp2_with fail
          go_ret3
          rw [HRe.out]
          exact⟨_,rfl,hf4,fun h=>absurd h her⟩
      · obtain rfl:i=m:=by omega
        have hnl:¬((i:Int)<i):=by omega
        have HEf:Hid (E0=(ids,a,0)):=by show _=_;rw [HE.out,Nat.sub_self];rfl
        rw [HEf.out]at HR
        have hale:=hC.le
        obtain⟨m8a,m8b⟩:=mod8 (8*l.length) a (by omega) hale
        have HL1:=hid (fun W (h:Fr wr W)=>HLf.out Br w.heap.size (8*l.length) a W (hC.fr h))
        have HPd:Hid (padB l a=decide (Fk.numAt l a ((8 - a % 8) % 8)=0)):=rfl
        have hrem:((((8*l.length:Nat):Int) - a).tmod 8=(((8 - a % 8) % 8:Nat):Int)):=by
          rw [Int.tmod_eq_emod_of_nonneg (by omega)];omega
        have hQt:((8*l.length - a) / 8)<=l.length:=by omega
        have hquo:((((8*l.length:Nat):Int) - a) / 8=(((8*l.length - a) / 8:Nat):Int)):=by omega
        have HQ3:Hid (∀ a3:Nat,a3=a+(8 - a % 8) % 8->(((8*l.length:Nat):Int) - (a3:Int)) / 8=(((8*l.length - a) / 8:Nat):Int)):=fun a3 h=>by omega
        have htk:l.length - (8*l.length - a) / 8=(a+7) / 8:=by omega
        have HTk:=hid htk
        have HG:=hid (fun W (h:Fr wr W) k hk=>HGet.out Br w.heap.size (8*l.length) a k W (hC.fr h) hk)
        have HP:=hid hP
        have hfit:a+(8 - a % 8) % 8<=8*l.length:=by omega
        have HFit:=hid hfit
        clear HE HEf m8a m8b htk hfit hO hC hP
        generalize hrs:(8 - a % 8) % 8=rs at *
        have hrs8:rs<8:=by omega
        clear hrs
        generalize hn8:8*l.length=n8 at *
        have hw8:IntKind.i64.wrap ((n8:Int) - a)=(n8:Int) - a:=IntWalk.i64_in _ (by omega)
        clear hn8
        have hwr:IntKind.i64.wrap (rs:Int)=(rs:Int):=IntWalk.i64_in _ (by omega)
        generalize (n8 - a) / 8=qt at *
        have hwq:IntKind.i64.wrap (qt:Int)=(qt:Int):=IntWalk.i64_in _ (by omega)
        have hws:IntKind.i64.wrap ((l.length:Int) - qt)=(((a+7) / 8:Nat):Int):=by rw [IntWalk.i64_in _ (by omega)];have:=HTk.out;omega
        generalize (a+7) / 8=tk at *
        go_wp2_with fail
        refine(HL1.out wr (Fr.refl _)).mono ?_
        rintro e w4 ⟨rfl,hq4⟩
        by_cases hr0:rs=0
        · subst hr0
          have HRe:Hid (R=(ids,tk,0)):=by show _=_;rw [HR.out,if_pos trivial,HPd.out];rfl
          have HL4:=hid (HL1.out w4 hq4.fr)
          clear HR
          go_wp2_with fail
          refine(HL4.out).mono ?_
          rintro e w5 ⟨rfl,hq5⟩
          have hff:=hf.trans (hq4.fr.trans hq5.fr)
          have hP5:PartsT w5 263 B2 g K hv lv (ids.map (· / 2 ^ K)) (ids.map (· % 2 ^ K)):=⟨(hq4.fr.trans hq5.fr).heap HP.out.at0,HP.out.hi.fr (hq4.fr.trans hq5.fr),HP.out.lo.fr (hq4.fr.trans hq5.fr),HP.out.lt⟩
          go_wp2_with fail
          go_ret3
          rw [HRe.out]
          exact⟨_,rfl,hff,fun _=>⟨g,B2,hv,lv,rfl,hgw,hP5⟩⟩
        · have k1:(0:Int)<rs:=by omega
          have hno:¬n8<a+rs:=by have:=HFit.out;omega
          have HG4:=hid (HG.out w4 hq4.fr rs (by omega))
          rw [if_neg hno,if_neg hno,if_neg hno]at HG4
          obtain⟨a3,ha3⟩:∃ a3,a3=a+rs:=⟨_,rfl⟩
          rw [<- ha3]at HG4
          have hq3:=HQ3.out a3 ha3
          have ha38:a3<=n8:=by have:=HFit.out;omega
          have HL5:=hid (fun W (h:BrF W Br w.heap.size l n8 a3)=>HLf.out Br w.heap.size n8 a3 W h)
          have hw9:IntKind.i64.wrap ((n8:Int) - a3)=(n8:Int) - a3:=IntWalk.i64_in _ (by omega)
          clear ha3
          have HP4:=hid (show PartsT w4 263 B2 g K hv lv (ids.map (· / 2 ^ K)) (ids.map (· % 2 ^ K))from⟨hq4.fr.heap HP.out.at0,HP.out.hi.fr hq4.fr,HP.out.lo.fr hq4.fr,HP.out.lt⟩)
          have hf4:=hf.trans hq4.fr
          clear HG HL1 HLf hno hr0
          generalize Fk.numAt l a rs=x at *
          go_wp2_with fail
          refine(HG4.out).mono ?_
          rintro e w5 ⟨rfl,hC5,hc5⟩
          have hP5:=HP4.out.beside hBg hBrB hc5
          have hf5:Fr w w5:=((hf4.chg (fun b=>b=Br)).trans hc5 fun _ _ h=>h).fr (fun k hk e=>by omega)
          clear HG4 HP4 hc5
          by_cases hx:x=0
          · subst hx
            have HRe:Hid (R=(ids,tk,0)):=by show _=_;rw [HR.out,if_pos trivial,HPd.out];rfl
            have HL6:=hid (HL5.out w5 hC5)
            clear HR
            go_wp2_with fail
            refine(HL6.out).mono ?_
            rintro e w6 ⟨rfl,hq6⟩
            have hP6:PartsT w6 263 B2 g K hv lv (ids.map (· / 2 ^ K)) (ids.map (· % 2 ^ K)):=⟨hq6.fr.heap hP5.at0,hP5.hi.fr hq6.fr,hP5.lo.fr hq6.fr,hP5.lt⟩
            have hf6:=hf5.trans hq6.fr
            go_wp2_with fail
            go_ret3
            rw [HRe.out]
            exact⟨_,rfl,hf6,fun _=>⟨g,B2,hv,lv,rfl,hgw,hP6⟩⟩
          · have hx':¬(x:Int)=0:=by omega
            have HRe:Hid (R=([],0,2)):=by show _=_;rw [HR.out,if_pos trivial,HPd.out,decide_eq_false hx];rfl
            clear HR
            go_wp2_with fail
            go_ret3
            rw [HRe.out]
            exact⟨_,rfl,hf5,fun h=>by cases h⟩
set_option maxRecDepth 512
theorem int0(most:Nat)(b:List UInt8):(⟨0,0⟩:Cs).int b most=((limL most b).1,⟨(limL most b).2.1,(limL most b).2.2⟩):=by
 unfold Cs.int Cs.val Cs.step
 by_cases h:(limL most b).2.2=0
 · simp [h]
 · have:=limL_no _ _ h
   simp [h,this.1,this.2.1]
theorem rowR_le(bound m:Nat)(r:List UInt8)(hl:r.length<=1000000)(h:(rowR bound m r).2.2=0):(rowR bound m r).2.1<=1000001:=by
 unfold rowR at *
 split at h
 · simp at h
 · rename_i h0
   rw [if_neg h0]
   split at h
   · rename_i h1
     rw [if_pos h1]
     have h2:=efGo_ok bound _ r m 0 _ 0 0 [] (by omega) h1
     split at h
     · rename_i h3
       rw [if_pos h3]
       show(_+7) / 8<=_
       omega
     · simp at h
   · rename_i h1;exact absurd h h1
def ListAt(w:World)(g base:Nat)(ids:List Nat):Prop:=∃ K hv lv,K<=14/\PartsT w 263 base g K hv lv (ids.map (· / 2 ^ K)) (ids.map (· % 2 ^ K))
theorem ListAt.fr{w w':World}{g base:Nat}{ids:List Nat}(h:ListAt w g base ids)(hf:Fr w w'):ListAt w' g base ids:=by
 obtain⟨K,hv,lv,hk,hP⟩:=h
 exact⟨K,hv,lv,hk,hf.heap hP.at0,hP.hi.fr hf,hP.lo.fr hf,hP.lt⟩
set_option maxRecDepth 100000
theorem ERead_any(bound:Nat)(hb:bound<=20000)(v:Value)(b:List UInt8)(w:World)(hs:See w eB v b)(hl:b.length<=1000000) :
  Calls Tryz.prog 135 #[N bound,v] w fun e w'=>∃ pv,e=.returned (.tuple #[pv,N (efR bound b).2.1,.int .i64 ((efR bound b).2.2:Int)])/\Fr w w'/\((efR bound b).2.2=0->∃ g base,pv=.pointer (some ⟨g,0,none⟩)/\w.heap.size<=g/\ListAt w' g base (efR bound b).1):=by
 have HNew:=hid (New_any v b w hs hl)
 have HInt:=hid (fun B base W (h:CurF W 183 B base b 0 0)=>Int_cur bound (by omega) B base ⟨0,0⟩ b W h hl)
 rw [int0]at HInt
 have HErr:=hid (fun B base n er W h=>CErr_any B base n er b W h)
 have HAt:=hid (fun B base n er W h=>At_cur B base n er b W h)
 have HRow:=hid (fun m v r W h1 h2 hs hl=>erow_any bound m hb h1 h2 v r W hs hl)
 have HR:Hid (efR bound b=_):=efR_row bound b
 have hok:=limL_ok bound b
 have HS:=hid hs
 obtain⟨a0,cap,hv,_⟩:=hs.shape
 subst hv
 clear hs
 generalize efR bound b=R at *
 have b1:¬(bound:Int)<0:=by omega
 have b2:¬(20000:Int)<bound:=by omega
 by_cases h0:(limL bound b).2.2=0
 · rw [if_pos h0]at HR
   rw [h0]at HInt
   obtain⟨ha1,ha2,ha3⟩:=hok h0
   clear h0 hok
   generalize (limL bound b).1=n at *
   generalize (limL bound b).2.1=at_ at *
   by_cases hn:n=0
   · rw [if_pos hn]at HR
     subst hn
     go_enter Tryz.func135, Tryz.ntmps135
     go_wp2_with fail
     refine(HNew.out).mono ?_
     rintro e w1 ⟨B,rfl,hC,hf1,hB⟩
     have hBw:B<w1.heap.size:=by obtain⟨⟨v,h1,_⟩,_⟩:=hC;exact(Array.getElem?_eq_some_iff.1 h1).1
     have HI1:=hid (HInt.out B _ w1 hC)
     clear HNew
     go_wp2_with fail
     refine(HI1.out).mono ?_
     rintro e w2 ⟨rfl,hC2,hc2⟩
     have hf2:Fr w w2:=((hf1.chg (fun b=>b=B)).trans hc2 fun _ _ h=>h).fr (fun k hk e=>by omega)
     have HE2:=hid (HErr.out B _ _ _ w2 hC2)
     go_wp2_with fail
     refine(HE2.out).mono ?_
     rintro e w3 ⟨rfl,rfl⟩
     have hfa:Fr w2 (w2.alloc (.cells #[.int .i64 0,.slice none 0 0,.slice none 0 0] 263)):=(Fr.refl w2).alloc _
     have hb0:(w2.alloc (.cells #[.int .i64 0,.slice none 0 0,.slice none 0 0] 263)).heap[w2.heap.size]?=some (.cells #[.int .i64 0,.slice none 0 0,.slice none 0 0] 263 (0,0)):=heap_new _ _ _ rfl
     have HA2:=hid (HAt.out B _ _ _ _ (hC2.fr hfa))
     go_wp2_with fail
     generalize w2.alloc (.cells #[.int .i64 0,.slice none 0 0,.slice none 0 0] 263)=w4 at *
     refine(HA2.out).mono ?_
     rintro e w5 ⟨rfl,rfl⟩
     have hfw:=hf2.trans hfa
     have hsz:=hf2.size
     go_wp2_with fail
     go_ret3
     rw [HR.out]
     exact⟨_,rfl,hfw,fun _=>⟨w2.heap.size,w2.heap.size+1,rfl,hsz,0,_,_,by omega,hb0,Ow.nil,Ow.nil,by omega⟩⟩
   · rw [if_neg hn]at HR
     have n1:¬(n:Int)=0:=by omega
     obtain⟨f1,f2,hfr,hfs⟩:=run_from eB 22 Tryz.underlying22 HS.out at_ ha2
     have HFs:=hid hfs
     have hdl:(b.drop at_).length=b.length - at_:=List.length_drop ..
     have HRw:=hid (fun W (hf:Fr w W)=>HRow.out n _ (b.drop at_) W (by omega) ha3 (HFs.out.fr hf) (by omega))
     have HAb:=hid ha2
     have HTk:Hid ((rowR bound n (b.drop at_)).2.2=0->(rowR bound n (b.drop at_)).2.1<=1000001):=fun h=>rowR_le bound n _ (by omega) h
     have HLg:Hid (Nat.log2 (bound / n)<=14):=by
      have hq1:1<=bound / n:=Nat.div_pos ha3 (by omega)
      have hq2:bound / n<=20000:=Nat.le_trans (Nat.div_le_self _ _) hb
      exact Nat.le_of_lt_succ ((Nat.log2_lt (by omega)).2 (by omega))
     clear hfs hdl HRow hn ha1 ha2
     generalize b.length - at_=bl at *
     generalize rowR bound n (b.drop at_)=Q at *
     go_enter Tryz.func135, Tryz.ntmps135
     go_wp2_with fail
     refine(HNew.out).mono ?_
     rintro e w1 ⟨B,rfl,hC,hf1,hB⟩
     have hBw:B<w1.heap.size:=by obtain⟨⟨v,h1,_⟩,_⟩:=hC;exact(Array.getElem?_eq_some_iff.1 h1).1
     have HI1:=hid (HInt.out B _ w1 hC)
     clear HNew
     go_wp2_with fail
     refine(HI1.out).mono ?_
     rintro e w2 ⟨rfl,hC2,hc2⟩
     have hf2:Fr w w2:=((hf1.chg (fun b=>b=B)).trans hc2 fun _ _ h=>h).fr (fun k hk e=>by omega)
     have HE2:=hid (HErr.out B _ _ _ w2 hC2)
     go_wp2_with fail
     refine(HE2.out).mono ?_
     rintro e w3 ⟨rfl,rfl⟩
     have HA2:=hid (HAt.out B _ _ _ _ hC2)
     go_wp2_with fail
     refine(HA2.out).mono ?_
     rintro e w5 ⟨rfl,rfl⟩
     have HR2:=hid (HRw.out w2 hf2)
     go_wp2_with fail
     refine(HR2.out).mono ?_
     rintro e w6 ⟨pv,rfl,hf6,hok6⟩
     have HA6:=hid (HAt.out B _ _ _ _ (hC2.fr hf6))
     have hfw:=hf2.trans hf6
     have hsz:=hf2.size
     clear HA2 HR2 HRw HE2 HI1
     by_cases hq:Q.2.2=0
     · rw [if_pos hq]at HR
       obtain⟨g,base,hv,lv,rfl,hgw,hP⟩:=hok6 hq
       have HL:Hid (ListAt w6 g base Q.1):=⟨_,hv,lv,HLg.out,hP⟩
       have htk:=HTk.out hq
       rw [hq]at *
       clear hok6 hP hq
       generalize Q.2.1=tk at *
       have hwt:IntKind.i64.wrap ((at_:Int)+tk)=((at_+tk:Nat):Int):=by rw [IntWalk.i64_in _ (by have:=HAb.out;omega)];simp
       go_wp2_with fail
       refine(HA6.out).mono ?_
       rintro e w7 ⟨rfl,rfl⟩
       go_wp2_with fail
       go_ret3
       rw [HR.out]
       exact⟨_,rfl,hfw,fun _=>⟨g,base,rfl,by omega,HL.out⟩⟩
     · rw [if_neg hq]at HR
       have hq':¬(Q.2.2:Int)=0:=by omega
       have HQ:=hid hq
       clear hok6 hq
       generalize Q.2.2=er at *
       go_wp2_with fail
       go_ret3
       rw [HR.out]
       exact⟨_,rfl,hfw,fun h=>absurd h HQ.out⟩
 · rw [if_neg h0]at HR
   have h1:¬((limL bound b).2.2:Int)=0:=by omega
   have H0:=hid h0
   clear hok h0
   generalize (limL bound b).2.2=er at *
   generalize (limL bound b).1=n at *
   generalize (limL bound b).2.1=at_ at *
   go_enter Tryz.func135, Tryz.ntmps135
   go_wp2_with fail
   refine(HNew.out).mono ?_
   rintro e w1 ⟨B,rfl,hC,hf1,hB⟩
   have hBw:B<w1.heap.size:=by obtain⟨⟨v,h1,_⟩,_⟩:=hC;exact(Array.getElem?_eq_some_iff.1 h1).1
   have HI1:=hid (HInt.out B _ w1 hC)
   clear HNew
   go_wp2_with fail
   refine(HI1.out).mono ?_
   rintro e w2 ⟨rfl,hC2,hc2⟩
   have hf2:Fr w w2:=((hf1.chg (fun b=>b=B)).trans hc2 fun _ _ h=>h).fr (fun k hk e=>by omega)
   have HE2:=hid (HErr.out B _ _ _ w2 hC2)
   go_wp2_with fail
   refine(HE2.out).mono ?_
   rintro e w3 ⟨rfl,rfl⟩
   go_wp2_with fail
   go_ret3
   rw [HR.out]
   exact⟨_,rfl,hf2,fun h=>absurd h H0.out⟩
theorem ELen_any(g base:Nat)(ids:List Nat)(w:World)(h:ListAt w g base ids) :
  Calls Tryz.prog 136 #[.pointer (some ⟨g,0,none⟩)] w fun e w'=>e=.returned (N ids.length)/\w=w':=by
 obtain⟨K,hv,lv,hk,hP⟩:=h
 obtain⟨a0,cap,hv2⟩:=hP.hi.shape'
 rw [List.length_map]at hv2
 subst hv2
 have c1:w.cell? ⟨g,1,none⟩=some (.slice a0 ids.length cap):=by rw [cell_of_heap hP.at0];rfl
 clear hP
 go_enter Tryz.func136, Tryz.ntmps136
 go_wp2_with fail
 go_ret
 exact⟨rfl,rfl⟩
theorem enumber_any(g base i:Nat)(ids:List Nat)(w:World)(h:ListAt w g base ids)(hi:i<ids.length)(hx:ids[i]<=20000) :
  Calls Tryz.prog 194 #[.pointer (some ⟨g,0,none⟩),N i] w fun e w'=>e=.returned (N ids[i])/\Qt w w':=by
 obtain⟨K,hv,lv,hk,hP⟩:=h
 obtain⟨b1,o1,p1,hv1,c1⟩:=hP.hi.see.cell1 N rfl i (by rw [List.length_map];exact hi)
 obtain⟨b2,o2,p2,hv2,c2⟩:=hP.lo.see.cell1 (fun n:Nat=>Value.int .u16 (n:Int)) rfl i (by rw [List.length_map];exact hi)
 rw [List.length_map]at hv1 hv2
 rw [List.getElem_map]at c1 c2
 subst hv1 hv2
 have d0:w.cell? ⟨g,0,none⟩=some (N K):=by rw [cell_of_heap hP.at0];rfl
 have d1:w.cell? ⟨g,1,none⟩=some (.slice (some ⟨b1,o1,none⟩) ids.length p1):=by rw [cell_of_heap hP.at0];rfl
 have d2:w.cell? ⟨g,2,none⟩=some (.slice (some ⟨b2,o2,none⟩) ids.length p2):=by rw [cell_of_heap hP.at0];rfl
 have f1:w.cell? ⟨b1,o1+i,none⟩=some (N (ids[i] / 2 ^ K)):=c1
 have f2:w.cell? ⟨b2,o2+i,none⟩=some (.int .u16 ((ids[i] % 2 ^ K:Nat):Int)):=c2
 have hp:=Nat.two_pow_pos K
 have hm:ids[i] % 2 ^ K<2 ^ K:=Nat.mod_lt _ hp
 have hd:ids[i] / 2 ^ K<=10000000:=by have:=Nat.div_le_self ids[i] (2 ^ K);omega
 have HE:Hid (ids[i] / 2 ^ K*2 ^ K+ids[i] % 2 ^ K=ids[i]):=by show _=_;rw [Nat.mul_comm];exact Nat.div_add_mod _ _
 obtain⟨w1,w2,_⟩:=shl_or (ids[i] / 2 ^ K) K (ids[i] % 2 ^ K) hk hd hm
 have hml:ids[i] % 2 ^ K<=ids[i]:=Nat.mod_le _ _
 clear c1 c2 hP hp hm
 generalize ids[i]=x at *
 generalize x % 2 ^ K=m at *
 generalize x / 2 ^ K=q at *
 rw [HE.out]at w2
 generalize q*2 ^ K=y at *
 have w3:IntKind.i64.wrap (m:Int)=(m:Int):=IntWalk.i64_in _ (by omega)
 have i1:(0:Int)<=i:=by omega
 have i2:(i:Int)<ids.length:=by omega
 have k0:¬(K:Int)<0:=by omega
 clear HE hd hml hx
 go_enter Tryz.func194, Tryz.ntmps194
 go_wp2_with fail
 go_quiet (fail)
 go_wp2_with fail
 go_ret
 exact⟨rfl,Qt.drewN _ _⟩
theorem EAll_any(g base:Nat)(ids:List Nat)(w:World)(h:ListAt w g base ids)(hx:∀ x∈ids,x<=20000)(hn:ids.length<=20000) :
  Calls Tryz.prog 137 #[.pointer (some ⟨g,0,none⟩)] w fun e w'=>∃ v,e=.returned v/\Ow w' w.heap.size eJ v ids/\Fr w w':=by
 have HLen:=hid (ELen_any g base ids w h)
 have HNum:=hid (fun i (hi:i<ids.length) W (hf:Fr w W)=>enumber_any g base i ids W (h.fr hf) hi (hx _ (List.getElem_mem hi)))
 have HTk:Hid (∀ i (hi:i<ids.length),ids.take (i+1)=ids.take i++[ids[i]]):=fun i hi=>List.take_succ_eq_append_getElem hi
 have HLl:Hid (∀ i,(ids.take i).length<=20000):=fun i=>by rw [List.length_take];omega
 clear h hx
 go_enter Tryz.func137, Tryz.ntmps137
 go_wp2_with fail
 refine(HLen.out).mono ?_
 rintro e w1 ⟨rfl,rfl⟩
 clear HLen
 go_wp2_with fail
 go_loopw [3,7] (fun ov iv wr=>∃ i:Nat,i<=ids.length/\iv=N i/\Ow wr w.heap.size eJ ov (ids.take i)/\Fr w wr) (fun _ iv _=>ids.length - (intOf iv).toNat)
 case atStart=>exact⟨0,Nat.zero_le _,rfl,by rw [List.take_zero];exact Ow.nil,Fr.refl _⟩
 case round=>
  obtain⟨i,hi,rfl,hO,hf⟩:=hrel
  by_cases hlt:i<ids.length
  · have HN1:=hid (HNum.out i hlt wr hf)
    have HT:=hid (HTk.out i hlt)
    have HLi:=hid (HLl.out i)
    have i1:(i:Int)<ids.length:=by omega
    generalize ids[i]=x at *
    generalize ids.take i=P0 at *
    have HC1:Hid (P0.length+[x].length<=2147483648):=by have:=HLi.out;show _<=_;simp;omega
    have HO:=hid hO
    clear hO
    go_wp2_with fail
    refine(HN1.out).mono ?_
    rintro e w2 ⟨rfl,hq⟩
    have hO2:=HO.out.fr hq.fr
    have hf2:=hf.trans hq.fr
    go_wp2_with (at_builtin;refine wpList_app1 eJ rfl (.tmp 10) (.tmp 16) 30 rfl Tryz.underlying30 w.heap.size rfl hO2 [x] _ _ _ rfl rfl rfl HC1.out hf2.size ?_)
    intro v' w4 hap
    go_wp2_with fail
    go_roundw
    case rel=>exact⟨i+1,by omega,by go_num,by rw [HT.out];exact hap.own,hap.below hO2 hf2 (Nat.le_refl _) hf2.size⟩
    case measure=>simp [intOf];omega
  · obtain rfl:i=ids.length:=by omega
    have hnl:¬((ids.length:Int)<ids.length):=by omega
    rw [List.take_length]at hO
    obtain⟨va,vc,hv⟩:=hO.shape'
    subst hv
    go_wp2_with fail
    go_ret
    exact⟨_,rfl,hO,hf⟩
set_option maxRecDepth 512
end Go.Proofs.YtijghcbpfcjjnaaGreatDoor
