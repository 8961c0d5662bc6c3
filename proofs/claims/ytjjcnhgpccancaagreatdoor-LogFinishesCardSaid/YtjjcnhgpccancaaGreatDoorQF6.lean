/- What the proofs of LogFinishes need, part 6: the walks of the program's functions and the plain laws about them. -/
import Derived.Test.YtjjcnhgpccancaaGreatDoorQF5
import Derived.Shelf.SlIter.Collect
set_option linter.unusedSimpArgs false
set_option linter.unusedVariables false
set_option maxHeartbeats 4000000
namespace Go.Proofs.YtjjcnhgpccancaaGreatDoor.X
open Go Go.RowKit Go.Proofs.YtjjcnhgpccancaaGreatDoor
theorem qqc (k:IntKind)(hk:k= .i64\/k= .u64){x:Int}(h0:0<=x)(h1:x<9223372036854775808)(i:Nat)(hi:i<64):((qe .and k (Int.fdiv x (2^min (i:Int).toNat (IntKind.bits k))) 1:Int)==1)=qeo x.toNat i:=by
 have:=bit_eq k hk (n:=x.toNat) (i:=i) (by omega) hi;rwa[j8 h0]at this
theorem i63 {x:Int}(h:x<=9223372036854775807):x<9223372036854775808:=by omega
theorem qdJ {x:Int}(h0:0<=x)(h1:x<9223372036854775808)(I:Int)(i:Nat)(hi:i<64)(hI:I=(i:Int)):((qe .and .i64 (Int.fdiv x (2^min I.toNat (IntKind.bits .i64))) 1:Int)==1)=qeo x.toNat i:=by
 subst hI;exact qqc .i64 (.inl rfl) h0 h1 i hi
theorem qnH (tb:Nat):qfT tb 0=qix 7:=by funext i;simp[qfT]
def qfX (w h top bot n tb:Int)(k:Nat):TS:={qfU w h top bot n tb with tabs:=qfT tb.toNat k}
theorem TermIn.eqT {w:World}{t g o:Nat}{ba:Option Addr}{bn bc:Nat}{pa:Option Addr}{pn pc:Nat}{T T':TS}{F F1 F2 FB FP:Nat->Prop}(h:TermIn w t g o ba bn bc pa pn pc T F F1 F2 FB FP)(e:T=T'):TermIn w t g o ba bn bc pa pn pc T' F F1 F2 FB FP:=e▸h
def flK (w h top bot n:Int)(k:Nat):TS:={startT zeroT w h with top:=top,bot:=bot,wrap:=if 0<k then qeo n.toNat 0 else true,origin:=if 1<k then qeo n.toNat 1 else false,insert:=if 2<k then qeo n.toNat 2 else false,hidden:=if 3<k then qeo n.toNat 3 else false,alt:=if 4<k then qeo n.toNat 4 else false,draw0:=if 5<k then qeo n.toNat 5 else false,draw1:=if 6<k then qeo n.toNat 6 else false,shift:=if 7<k then qeo n.toNat 7 else false}
theorem flK_end (w h top bot n tb:Int):flK w h top bot n 8=qfX w h top bot n tb 0:=by
 unfold qfX;rw[qnH];rfl
theorem qnI {w h top bot n tb:Int}{k:Nat}{v:Bool}(hv:v=qeo tb.toNat k):({qfX w h top bot n tb k with tabs:=fun i=>if i=(k:Int).toNat then v else(qfX w h top bot n tb k).tabs i}:TS)=qfX w h top bot n tb (k+1):=by
 have:(fun i=>if i=(k:Int).toNat then v else qfT tb.toNat k i)=qfT tb.toNat (k+1):=by
  funext i;rw[il,hv];unfold qfT;by_cases h:i=k
  ·subst h;rw[if_pos rfl,if_pos (Nat.lt_succ_self i)]
  rw[if_neg h];by_cases a:i<k
  ·rw[if_pos a,if_pos (by omega)]
  rw[if_neg a,if_neg (by omega)]
 show({qfU w h top bot n tb with tabs:=fun i=>if i=(k:Int).toNat then v else qfT tb.toNat k i}:TS)=_;rw[this];rfl
theorem qqd {sr rv D:Nat}{s0 s1:RS}{ot:Option TS}{w:World}(hS:SrIn w sr rv D true s0)(hT:LT w)(hr7:gTop<=rv)(hs7:gTop<=sr)(hH:qiO s0=(ot,s1)):CP 88 [pX sr].toArray w fun e w'=>
 ∃v,e= .returned v/\SrIn w' sr rv D true s1/\Ch (srB sr rv) w w'/\((ot=none/\v= .pointer none)\/ ∃t T,ot=some T/\v=pX t/\TermAt w' t T (fun b=>w.heap.size<=b/\b<w'.heap.size)):=by
 refine yA Tryz.func88 rfl<|yx 1<|ys<|qaI (· =rv) [9] (by kernel_rfl) (fun aR cV Z=>?_);have aS:Ch (srB sr rv) w aR:=zt (Ch.refl (srB sr rv) w) Z eZ;have a0:=hS.blk.ch Z id;have aT:=hS.rd.ch Z id id;refine ydC [0,1,2,3,5,6,7,8] [] (fun u hu=>(.l (qg hu (a0.c 0) hS.ne) (.l (qg hu (a0.c 0) hS.ne) .z))) ?_;obtain⟨j,al,I⟩:∃x s',qP (61) s0=(x,s'):=⟨_,_,rfl⟩
 have am:=qaa (lim:=61) (s:=s0);rw[I]at am;dsimp only at am;refine yH 4 (yQ (qa3 (lim:=61) aT I (by omega)) ?_);rintro aU ⟨aV,a1⟩;have aW:Ch (srB sr rv) w aU:=zt aS a1 (fun _ _ h=> .inr h);have aX:=a0.ch a1 hS.ne;refine qA a1 iZ ?_;obtain⟨f,an,J⟩:∃x s',qP (61) al=(x,s'):=⟨_,_,rfl⟩
 have ao:=qaa (lim:=61) (s:=al);rw[J]at ao;dsimp only at ao;refine yK 9 (yQ (qa3 (lim:=61) aV J (by omega)) ?_);rintro aY ⟨aZ,ap⟩;have b0:Ch (srB sr rv) w aY:=zt aW ap (fun _ _ h=> .inr h);have b1:=aX.ch ap hS.ne;refine q8<|yd [10,11] [] .z<|yDe (nS ?_);refine ys<|qaI (· =rv) [13] (by kernel_rfl) (fun b2 cW a2=>?_);have b3:Ch (srB sr rv) w b2:=zt b0 a2 eZ;have a3:=b1.ch a2 id;have b4:=aZ.ch a2 id id;refine ydC [0,1,2,3,4,5,7,8,9,10,11,12] [] (fun u hu=>(.l (qg hu (a3.c 0) hS.ne) (.q6 (f+1) (.l (qg hu (a3.c 0) hS.ne) (.q6 (f+1) .z))))) ?_;obtain⟨m,aq,K⟩:∃x s',qP ((f+1)) an=(x,s'):=⟨_,_,rfl⟩
 have ar:=qaa (lim:=(f+1)) (s:=an);rw[K]at ar;dsimp only at ar;refine yH 6 (yQ (qa3 (lim:=(f+1)) b4 K (by omega)) ?_);rintro b5 ⟨b6,a4⟩;have b7:Ch (srB sr rv) w b5:=zt b3 a4 (fun _ _ h=> .inr h);have b8:=a3.ch a4 hS.ne;refine qA a4 iZ ?_;obtain⟨n,au,L⟩:∃x s',qP ((f+1)) aq=(x,s'):=⟨_,_,rfl⟩
 have av:=qaa (lim:=(f+1)) (s:=aq);rw[L]at av;dsimp only at av;refine yK 13 (yQ (qa3 (lim:=(f+1)) b6 L (by omega)) ?_);rintro b9 ⟨bb,aw⟩;have bd:Ch (srB sr rv) w b9:=zt b7 aw (fun _ _ h=> .inr h);have bf:=b8.ch aw hS.ne;refine q8<|yd [14,15] [] .z<|yDe (nS ?_);refine ys<|qaI (· =rv) [9] (by kernel_rfl) (fun bg cX a5=>?_);have bh:Ch (srB sr rv) w bg:=zt bd a5 eZ;have a6:=bf.ch a5 id;have bi:=bb.ch a5 id id;refine ydC [0,1,2,3,5,6,7,8] [] (fun u hu=>(.l (qg hu (a6.c 0) hS.ne) (.l (qg hu (a6.c 0) hS.ne) .z))) ?_;obtain⟨d,ax,M⟩:∃x s',qP (256) au=(x,s'):=⟨_,_,rfl⟩
 have r:=qaa (lim:=256) (s:=au);rw[M]at r;dsimp only at r;refine yH 4 (yQ (qa3 (lim:=256) bi M (by omega)) ?_);rintro bj ⟨bk,a7⟩;have bl:Ch (srB sr rv) w bj:=zt bh a7 (fun _ _ h=> .inr h);have bm:=a6.ch a7 hS.ne;refine qA a7 iZ ?_;obtain⟨y,a8,N⟩:∃x s',qP (1152921504606846976) ax=(x,s'):=⟨_,_,rfl⟩
 have U:=qaa (lim:=1152921504606846976) (s:=ax);rw[N]at U;dsimp only at U;refine yK 9 (yQ (qa3 (lim:=1152921504606846976) bk N (by omega)) ?_);rintro bo ⟨ay,az⟩;have bp:Ch (srB sr rv) w bo:=zt bl az (fun _ _ h=> .inr h);have aA:=bm.ch az hS.ne;refine q8<|yd (uL 10 3) [10] (.p (q:=InR .u64 y) (qao (by omega) (by omega)) .z)<|yDe (nS ?_);refine ys<|ysr<|yp 4 [] (.l (aA.c 0) .z)<|yo (yQ (qgf ay) fun V a9=>?_);have F:Ch (srB sr rv) w V:=zt bp a9 eZ;have O:=aA.ch a9 id;have P:=ay.ch a9 id id;refine yq 7<|yw [55] (rN (rY a8.isSome)) (fun aa=>?_) fun aa=>?_
 ·have bq:=aa;refine yz 19<|yct<|yx 1<|q9 (rS (yR1 (.pointer none) ?_));rw[qd4 I J K L M N]at hH;rw[if_pos (.inl bq)]at hH;simp only[ib]at hH;obtain⟨rfl,rfl⟩:=hH;exact⟨_,rfl,⟨O,P,hS.ne,hS.nd⟩,F,.inl ⟨rfl,rfl⟩⟩
 have br:=aa;refine yq 11<|yw [59] (rL j 1) (fun ab=>?_) fun ab=>?_
 ·have cY:=ab;refine yz 19<|yct<|yx 1<|q9 (rS (yR1 (.pointer none) ?_));rw[qd4 I J K L M N]at hH;rw[if_pos (.inr (.inl (by omega)))]at hH;simp only[ib]at hH;obtain⟨rfl,rfl⟩:=hH;exact⟨_,rfl,⟨O,P,hS.ne,hS.nd⟩,F,.inl ⟨rfl,rfl⟩⟩
 have cZ:=ab;refine yq 15<|yw [63] (rL f 1) (fun ac=>?_) fun ac=>?_
 ·have d0:=ac;refine yz 19<|yct<|yx 1<|q9 (rS (yR1 (.pointer none) ?_));rw[qd4 I J K L M N]at hH;rw[if_pos (.inr (.inr (.inl (by omega))))]at hH;simp only[ib]at hH;obtain⟨rfl,rfl⟩:=hH;exact⟨_,rfl,⟨O,P,hS.ne,hS.nd⟩,F,.inl ⟨rfl,rfl⟩⟩
 have d1:=ac;refine yz 19<|yc (rM n m) (fun ad=>?_) fun ad=>?_
 ·have d2:=ad;refine yx 1<|q9 (rS (yR1 (.pointer none) ?_));rw[qd4 I J K L M N]at hH;rw[if_pos (.inr (.inr (.inr (by omega))))]at hH;simp only[ib]at hH;obtain⟨rfl,rfl⟩:=hH;exact⟨_,rfl,⟨O,P,hS.ne,hS.nd⟩,F,.inl ⟨rfl,rfl⟩⟩
 have d3:=ad;refine yk<|ysr<|yq 2<|yo (yC (qeS j f _ (qaW F hT (fun b h=>h.elim (fun(h:b=sr)=>by omega) (fun(h:b=rv)=>by omega))) (by have:=hS.rd.lt;have:=zzs F;omega)) ?_);rintro _ C ⟨t,rfl,bs,ae⟩;refine⟨_,rfl,?_⟩;have d4:gTop<=w.heap.size:=by have:=hS.rd.lt;omega
 obtain⟨g,o,ba,bn,bc,pa,pn,pc,Q,R,FB,FP,hI⟩:=bs;have bt:=hI.inF.1.1;have G:w.heap.size<=t:=iq (zzs F) bt;have bu:Ch (srB sr rv) w C:=zt F ae eZ;have bv:=O.ch ae id;have bw:=P.ch ae id id;refine yz 4<|ysr<|yq 6<|yo (yS hI.blk fun bx bz bA=>?_);have bB:Ch (· =t) C bx:=zt (Ch.refl (· =t) C) bA iZ;have bC:Blk _ t (TS.vals ({(startT zeroT j f)with top:=m}:TS) g o (.slice ba bn bc) (.slice pa pn pc)) qar:=Blk.to bz (by kernel_rfl);refine yq 9<|yo (yS bC fun bD bE bF=>?_);have bG:Ch (· =t) C bD:=zt bB bF iZ;have bH:Blk _ t (TS.vals ({(startT zeroT j f)with top:=m,bot:=n}:TS) g o (.slice ba bn bc) (.slice pa pn pc)) qar:=Blk.to bE (by kernel_rfl);refine ye<|ys<|yD [27,28] fun bI d5 aB=>?_;have aC:Ch (· =t) C bI:=zt bG aB eZ;have aD:=bH.ch aB id;refine ydT (uL 0 27) [] rfl (fun _=>(.i 0 (2) (.i 1 (2) .z)))<|yK 27 (yN [.pointer none,.pointer none,.pointer none,.pointer none,.pointer none,.pointer none,.pointer none,.pointer none] 196 fun bJ af bK d6 bL aE=>?_);have bM:Ch (· =t) C bJ:=zt aC aE eZ;have bN:C.heap.size<=af:=by rw[bK];exact zzs aC
 have bO:=aD.ch aE id;refine q8<|yK 28 (yT [.pointer (some ⟨t,88,none⟩),.pointer (some ⟨t,89,none⟩),.pointer (some ⟨t,90,none⟩),.pointer (some ⟨t,91,none⟩),.pointer (some ⟨t,95,none⟩),.pointer (some ⟨t,92,none⟩),.pointer (some ⟨t,93,none⟩),.pointer (some ⟨t,94,none⟩)] bL fun bP bQ aF=>?_);have aG:Ch (· =t) C bP:=zt bM aF (fun i hi (h:i=af)=>by have:=bN;omega);have bR:=bO.ch aF (fun(h:t=af)=>by have:=aD.lt;omega);refine q8<|yDe (nS ?_);refine qb4 ([(8,.int .u64 y),(9,pX t)]) (fun u=>TermIn u t g o ba bn bc pa pn pc (qfX j f m n d y 0) (fun b=>V.heap.size<=b/\b<C.heap.size) Q R FB FP/\Blk u sr [pX rv,.bool true] tSr/\RdrAt u rv D a8/\Ch (srB sr rv) w u) (fun d7 bS=>?_) (fun u138 bT=>?_)
 ·refine ysr<|yp 2 [] (.a (bQ.cs 0 8) .z)<|ye<|qa ?_;have bU:=hI.scalar (T':=({(startT zeroT j f)with top:=m,bot:=n}:TS)) aG bR rfl rfl rfl rfl;refine qV [7,8,9,106,107] (f':=[(7,iX d),(8,.int .u64 y),(9,pX t),(106,.agg #[.pointer (some ⟨t,88,none⟩),.pointer (some ⟨t,89,none⟩),.pointer (some ⟨t,90,none⟩),.pointer (some ⟨t,91,none⟩),.pointer (some ⟨t,95,none⟩),.pointer (some ⟨t,92,none⟩),.pointer (some ⟨t,93,none⟩),.pointer (some ⟨t,94,none⟩)]),(107,iX 0)])<|qw (σ:=Nat) (fun k=>[(7,iX d),(8,.int .u64 y),(9,pX t),(106,.agg #[.pointer (some ⟨t,88,none⟩),.pointer (some ⟨t,89,none⟩),.pointer (some ⟨t,90,none⟩),.pointer (some ⟨t,91,none⟩),.pointer (some ⟨t,95,none⟩),.pointer (some ⟨t,92,none⟩),.pointer (some ⟨t,93,none⟩),.pointer (some ⟨t,94,none⟩)]),(107,iX (k:Int))]) (fun k u=>k<=8/\TermIn u t g o ba bn bc pa pn pc (flK j f m n d k) (fun b=>V.heap.size<=b/\b<C.heap.size) Q R FB FP/\Ch (· =t) C u) (fun k=>8-k) 0 rfl ?_ ?_
  ·exact⟨ir _,TermIn.eqT bU rfl,aG⟩
  intro k B bV d8 H;obtain⟨d9,A,E⟩:=bV;refine yx 1<|ys<|yc (rL (k:Int) 8) (fun ag=>?_) fun ag=>?_
  ·have da:=ag;rcases(by omega:k=0\/k=1\/k=2\/k=3\/k=4\/k=5\/k=6\/k=7)with rfl|rfl|rfl|rfl|rfl|rfl|rfl|rfl
   ·refine yk<|ys<|qa<|yx 4<|q7<|yp 7 [] (.p (q:=0<=(0:Int)) (by omega) .z)<|yo (yS A.blk fun bW bX bY=>?_);have aH:Ch (· =t) B bW:=zt (Ch.refl (· =t) B) bY iZ;have bZ:Blk _ t (TS.vals ({(flK j f m n d 0)with wrap:=(((qe .and .i64 (Int.fdiv d (2^min (0:Int).toNat (IntKind.bits .i64))) 1):Int)==1)}:TS) g o (.slice ba bn bc) (.slice pa pn pc)) qar:=Blk.to bX (by kernel_rfl);refine yE (nB (nS ?_));refine q7<|yp 2 [] (.q6 1 .z) ?_;have c0:=A.scalar (T':=({(flK j f m n d 0)with wrap:=(((qe .and .i64 (Int.fdiv d (2^min (0:Int).toNat (IntKind.bits .i64))) 1):Int)==1)}:TS)) aH bZ rfl rfl rfl rfl;refine yE (fun a ha=>H 1 _ ⟨by decide,TermIn.eqT c0 (by rw[qdJ r.1 (i63 r.2.1) 0 0 (by decide) rfl];rfl),zt E aH iZ⟩ (by show 8-(0+1)<8-0;omega) a (ha.kp [7,8,9,106,107]))
   ·refine yk<|ys<|qa<|yx 4<|q7<|yp 7 [] (.p (q:=0<=(1:Int)) (by omega) .z)<|yo (yS A.blk fun c1 c2 c3=>?_);have aI:Ch (· =t) B c1:=zt (Ch.refl (· =t) B) c3 iZ;have c4:Blk _ t (TS.vals ({(flK j f m n d 1)with origin:=(((qe .and .i64 (Int.fdiv d (2^min (1:Int).toNat (IntKind.bits .i64))) 1):Int)==1)}:TS) g o (.slice ba bn bc) (.slice pa pn pc)) qar:=Blk.to c2 (by kernel_rfl);refine yE (nB (nS ?_));refine q7<|yp 2 [] (.q6 2 .z) ?_;have c5:=A.scalar (T':=({(flK j f m n d 1)with origin:=(((qe .and .i64 (Int.fdiv d (2^min (1:Int).toNat (IntKind.bits .i64))) 1):Int)==1)}:TS)) aI c4 rfl rfl rfl rfl;refine yE (fun a ha=>H 2 _ ⟨by decide,TermIn.eqT c5 (by rw[qdJ r.1 (i63 r.2.1) 1 1 (by decide) rfl];rfl),zt E aI iZ⟩ (by show 8-(1+1)<8-1;omega) a (ha.kp [7,8,9,106,107]))
   ·refine yk<|ys<|qa<|yx 4<|q7<|yp 7 [] (.p (q:=0<=(2:Int)) (by omega) .z)<|yo (yS A.blk fun c6 c7 c8=>?_);have aJ:Ch (· =t) B c6:=zt (Ch.refl (· =t) B) c8 iZ;have c9:Blk _ t (TS.vals ({(flK j f m n d 2)with insert:=(((qe .and .i64 (Int.fdiv d (2^min (2:Int).toNat (IntKind.bits .i64))) 1):Int)==1)}:TS) g o (.slice ba bn bc) (.slice pa pn pc)) qar:=Blk.to c7 (by kernel_rfl);refine yE (nB (nS ?_));refine q7<|yp 2 [] (.q6 3 .z) ?_;have ca:=A.scalar (T':=({(flK j f m n d 2)with insert:=(((qe .and .i64 (Int.fdiv d (2^min (2:Int).toNat (IntKind.bits .i64))) 1):Int)==1)}:TS)) aJ c9 rfl rfl rfl rfl;refine yE (fun a ha=>H 3 _ ⟨by decide,TermIn.eqT ca (by rw[qdJ r.1 (i63 r.2.1) 2 2 (by decide) rfl];rfl),zt E aJ iZ⟩ (by show 8-(2+1)<8-2;omega) a (ha.kp [7,8,9,106,107]))
   ·refine yk<|ys<|qa<|yx 4<|q7<|yp 7 [] (.p (q:=0<=(3:Int)) (by omega) .z)<|yo (yS A.blk fun cb cc cd=>?_);have aK:Ch (· =t) B cb:=zt (Ch.refl (· =t) B) cd iZ;have ce:Blk _ t (TS.vals ({(flK j f m n d 3)with hidden:=(((qe .and .i64 (Int.fdiv d (2^min (3:Int).toNat (IntKind.bits .i64))) 1):Int)==1)}:TS) g o (.slice ba bn bc) (.slice pa pn pc)) qar:=Blk.to cc (by kernel_rfl);refine yE (nB (nS ?_));refine q7<|yp 2 [] (.q6 4 .z) ?_;have cf:=A.scalar (T':=({(flK j f m n d 3)with hidden:=(((qe .and .i64 (Int.fdiv d (2^min (3:Int).toNat (IntKind.bits .i64))) 1):Int)==1)}:TS)) aK ce rfl rfl rfl rfl;refine yE (fun a ha=>H 4 _ ⟨by decide,TermIn.eqT cf (by rw[qdJ r.1 (i63 r.2.1) 3 3 (by decide) rfl];rfl),zt E aK iZ⟩ (by show 8-(3+1)<8-3;omega) a (ha.kp [7,8,9,106,107]))
   ·refine yk<|ys<|qa<|yx 4<|q7<|yp 7 [] (.p (q:=0<=(4:Int)) (by omega) .z)<|yo (yS A.blk fun cg ci cj=>?_);have aL:Ch (· =t) B cg:=zt (Ch.refl (· =t) B) cj iZ;have ck:Blk _ t (TS.vals ({(flK j f m n d 4)with alt:=(((qe .and .i64 (Int.fdiv d (2^min (4:Int).toNat (IntKind.bits .i64))) 1):Int)==1)}:TS) g o (.slice ba bn bc) (.slice pa pn pc)) qar:=Blk.to ci (by kernel_rfl);refine yE (nB (nS ?_));refine q7<|yp 2 [] (.q6 5 .z) ?_;have cl:=A.scalar (T':=({(flK j f m n d 4)with alt:=(((qe .and .i64 (Int.fdiv d (2^min (4:Int).toNat (IntKind.bits .i64))) 1):Int)==1)}:TS)) aL ck rfl rfl rfl rfl;refine yE (fun a ha=>H 5 _ ⟨by decide,TermIn.eqT cl (by rw[qdJ r.1 (i63 r.2.1) 4 4 (by decide) rfl];rfl),zt E aL iZ⟩ (by show 8-(4+1)<8-4;omega) a (ha.kp [7,8,9,106,107]))
   ·refine yk<|ys<|qa<|yx 4<|q7<|yp 7 [] (.p (q:=0<=(5:Int)) (by omega) .z)<|yo (yS A.blk fun cm cn co=>?_);have aM:Ch (· =t) B cm:=zt (Ch.refl (· =t) B) co iZ;have cp:Blk _ t (TS.vals ({(flK j f m n d 5)with draw0:=(((qe .and .i64 (Int.fdiv d (2^min (5:Int).toNat (IntKind.bits .i64))) 1):Int)==1)}:TS) g o (.slice ba bn bc) (.slice pa pn pc)) qar:=Blk.to cn (by kernel_rfl);refine yE (nB (nS ?_));refine q7<|yp 2 [] (.q6 6 .z) ?_;have cq:=A.scalar (T':=({(flK j f m n d 5)with draw0:=(((qe .and .i64 (Int.fdiv d (2^min (5:Int).toNat (IntKind.bits .i64))) 1):Int)==1)}:TS)) aM cp rfl rfl rfl rfl;refine yE (fun a ha=>H 6 _ ⟨by decide,TermIn.eqT cq (by rw[qdJ r.1 (i63 r.2.1) 5 5 (by decide) rfl];rfl),zt E aM iZ⟩ (by show 8-(5+1)<8-5;omega) a (ha.kp [7,8,9,106,107]))
   ·refine yk<|ys<|qa<|yx 4<|q7<|yp 7 [] (.p (q:=0<=(6:Int)) (by omega) .z)<|yo (yS A.blk fun cr ct cu=>?_);have aN:Ch (· =t) B cr:=zt (Ch.refl (· =t) B) cu iZ;have cv:Blk _ t (TS.vals ({(flK j f m n d 6)with draw1:=(((qe .and .i64 (Int.fdiv d (2^min (6:Int).toNat (IntKind.bits .i64))) 1):Int)==1)}:TS) g o (.slice ba bn bc) (.slice pa pn pc)) qar:=Blk.to ct (by kernel_rfl);refine yE (nB (nS ?_));refine q7<|yp 2 [] (.q6 7 .z) ?_;have cw:=A.scalar (T':=({(flK j f m n d 6)with draw1:=(((qe .and .i64 (Int.fdiv d (2^min (6:Int).toNat (IntKind.bits .i64))) 1):Int)==1)}:TS)) aN cv rfl rfl rfl rfl;refine yE (fun a ha=>H 7 _ ⟨by decide,TermIn.eqT cw (by rw[qdJ r.1 (i63 r.2.1) 6 6 (by decide) rfl];rfl),zt E aN iZ⟩ (by show 8-(6+1)<8-6;omega) a (ha.kp [7,8,9,106,107]))
   refine yk<|ys<|qa<|yx 4<|q7<|yp 7 [] (.p (q:=0<=(7:Int)) (by omega) .z)<|yo (yS A.blk fun cx cy cz=>?_);have aO:Ch (· =t) B cx:=zt (Ch.refl (· =t) B) cz iZ;have cA:Blk _ t (TS.vals ({(flK j f m n d 7)with shift:=(((qe .and .i64 (Int.fdiv d (2^min (7:Int).toNat (IntKind.bits .i64))) 1):Int)==1)}:TS) g o (.slice ba bn bc) (.slice pa pn pc)) qar:=Blk.to cy (by kernel_rfl);refine yE (nB (nS ?_));refine q7<|yp 2 [] (.q6 8 .z) ?_;have cB:=A.scalar (T':=({(flK j f m n d 7)with shift:=(((qe .and .i64 (Int.fdiv d (2^min (7:Int).toNat (IntKind.bits .i64))) 1):Int)==1)}:TS)) aO cA rfl rfl rfl rfl;refine yE (fun a ha=>H 8 _ ⟨by decide,TermIn.eqT cB (by rw[qdJ r.1 (i63 r.2.1) 7 7 (by decide) rfl];rfl),zt E aO iZ⟩ (by show 8-(7+1)<8-7;omega) a (ha.kp [7,8,9,106,107]))
  have db:=ag;have cC:k=8:=by omega
  subst cC;refine qm (eS (qd (qb (fun a ha=>bS _ ⟨TermIn.eqT A (flK_end j f m n d y),bv.ch E (fun(h:sr=t)=>by have:=G;have:=hS.blk.lt;omega),bw.ch E (fun(h:rv=t)=>by have:=G;have:=hS.rd.lt;omega) (fun(h:D=t)=>by have:=G;have:=hS.rd.dlt;omega),zt bu E (fun i hi (h:i=t)=>by have:=G;omega)⟩ a (ha.kp [8,9])))))
 obtain⟨cD,cE,cF,cG⟩:=bT;refine ys<|yx 1<|qa<|qV [8,9,119] (f':=[(8,.int .u64 y),(9,pX t),(119,iX 0)])<|qw (σ:=Nat) (fun k=>[(8,.int .u64 y),(9,pX t),(119,iX (k:Int))]) (fun k u=>k<=60/\TermIn u t g o ba bn bc pa pn pc (qfX j f m n d y k) (fun b=>V.heap.size<=b/\b<C.heap.size) Q R FB FP/\Blk u sr [pX rv,.bool true] tSr/\RdrAt u rv D a8/\Ch (srB sr rv) w u) (fun k=>60-k) 0 rfl ?_ ?_
 ·exact⟨ir _,cD,cE,cF,cG⟩
 intro k W cH dc cI;obtain⟨hk,X,hB,hR,ah⟩:=cH;refine yx 1<|ys<|yc (rL (k:Int) 60) (fun ai=>?_) fun ai=>?_
 ·have dd:=ai;refine yk<|ys<|qa<|yx 2<|yD [10] fun aP de S=>?_;have cJ:Ch (srB sr rv) w aP:=zt ah S eZ;have cK:Ch (· =t) W aP:=zt (Ch.refl (· =t) W) S eZ;have cL:=X.blk.ch S id;have cM:=hB.ch S id;have cN:=hR.ch S id id;refine yd (uL 0 10) [] (.p (q:=0<=((k:Int):Int)) (by omega) (.i (k:Int) (60) .z))<|yK 10 (qaL (28+((k:Int):Int).toNat*1) [.bool (((qe .and .u64 (Int.fdiv y (2^min ((k:Int):Int).toNat (IntKind.bits .u64))) 1):Int)==1)] none (by kernel_rfl) cL (by rw[qch];simp only[iz,iP];omega) ?_);intro aj ak Y;replace ak:Blk aj t (TS.vals ({(qfX j f m n d y k)with tabs:=(fun i=>if i=((k:Int):Int).toNat then(((qe .and .u64 (Int.fdiv y (2^min ((k:Int):Int).toNat (IntKind.bits .u64))) 1):Int)==1)else(qfX j f m n d y k).tabs i)}:TS) g o (.slice ba bn bc) (.slice pa pn pc)) qar:=Blk.to ak (qg4 (qfX j f m n d y k) _ _ _ _ _ (by omega) _);have cO:Ch (srB sr rv) w aj:=zt cJ Y (fun i hi (h:i=t)=>by have:=G;omega);have cP:Ch (· =t) W aj:=zt cK Y iZ;have cQ:=cM.ch Y (fun(h:sr=t)=>by have:=G;have:=hS.blk.lt;omega);have cR:=cN.ch Y (fun(h:rv=t)=>by have:=G;have:=hS.rd.lt;omega) (fun(h:D=t)=>by have:=G;have:=hS.rd.dlt;omega);refine q8<|yDe (nB (nS ?_));refine q7<|yp 2 [] (.q6 ((k:Int)+1) .z) ?_
  have cS:=X.scalar (T':=({(qfX j f m n d y k)with tabs:=(fun i=>if i=((k:Int):Int).toNat then(((qe .and .u64 (Int.fdiv y (2^min ((k:Int):Int).toNat (IntKind.bits .u64))) 1):Int)==1)else(qfX j f m n d y k).tabs i)}:TS)) cP ak rfl rfl rfl rfl;have aQ:=cS;rw[qnI (qqc .u64 (.inr rfl) U.1 (i63 U.2.1) k (by omega))]at aQ;refine yE (fun a ha=>cI (k+1) _ ⟨by omega,aQ,cQ,cR,cO⟩ (by show 60-(k+1)<60-k;omega) a (ha.kp [8,9,119]))
 have df:=ai;refine qm (eS (qd (qb (nS ?_))));refine yx 2<|q9 (yR1 (pX t) ?_);rw[qd4 I J K L M N]at hH;rw[if_neg (by rintro (h|h|h|h);exact absurd (br.symm.trans h) (by decide);omega;omega;omega)]at hH;simp only[ib]at hH;obtain⟨rfl,rfl⟩:=hH;have cT:k=60:=by omega
 subst cT;have dg:=zzs F;have cU:=X.lt;have dh:=zzs ah;exact⟨_,rfl,⟨hB,hR,hS.ne,hS.nd⟩,ah,.inr ⟨t,_,rfl,rfl,TermAt.mono ⟨g,o,ba,bn,bc,pa,pn,pc,Q,R,FB,FP,(show TermIn _ t g o ba bn bc pa pn pc (qfU j f m n d y) _ Q R FB FP from X)⟩ (fun b hb=>⟨by have:=hb.1;omega,by have:=cU b hb;have:=zzs (Ch.refl (· =t) W);omega⟩) (fun b hb=>⟨hb.2,by have:=hb.1;omega⟩)⟩⟩
theorem qgj {T:TS}{W H:Int}{s s1 s2 s3 s4 s5 s6 s7 s8 s9:RS}{a b c:Cur}{ha hb hc f4 f5 f6 f9:Bool}{d e k:List (List Cel)}{t r:ByteArray}{p:PS}
  (h1:qj7 W H s=(a,ha,s1)) (h2:qj7 W H s1=(b,hb,s2)) (h3:qj7 W H s2=(c,hc,s3)) (h4:qam W H.toNat [] s3 ((ha&&hb)&&hc)=(d,s4,f4)) (h5:qam W H.toNat [] s4 f4=(e,s5,f5)) (h6:qfS s5 f5=(k,s6,f6))
  (h7:qbb 40 s6=(t,s7)) (h8:qbb 400 s7=(r,s8)) (h9:qiN s8 f6=(p,s9,f9)):
  qk4 T W H s=if f9=true/\s9=some []then some {T with cursor:=a,saved:=b,away:=c,grid:=⟨W,H,d⟩,other:=⟨W,H,e⟩,back:=k,title:=t,reply:=r,parser:=p}else none:=by
 unfold qk4;rw[h1];dsimp only;rw[h2];dsimp only;rw[h3];dsimp only;rw[h4];dsimp only;rw[h5];dsimp only;rw[h6];dsimp only;rw[h7];dsimp only;rw[h8];dsimp only;rw[h9]
def qnJ (x:RowO):Row:=⟨x.b.getD 0,x.n,x.cap,x.l⟩
section
variable {w:World}{m n cap:Nat}{o:Option Nat}{rows:List RowO}
theorem RowsO.some (h:RowsO w m rows){x:RowO}(hx:x∈rows)(hl:0<x.l.length):∃b,x.b=Option.some b:=by
 obtain⟨a,c⟩:=h.line x hx;exact qgW a (by omega)
theorem RowsO.val (h:RowsO w m rows)(hl:∀x∈rows,0<x.l.length):rows.map RowO.val=(rows.map qnJ).map Row.val:=by
 rw[jB];refine jA fun x hx=>?_;obtain⟨b,hb⟩:=h.some hx (hl x hx);show Value.slice (x.b.map at0) x.n x.cap=Value.slice (Option.some ⟨x.b.getD 0,0,none⟩) x.n x.cap;rw[hb];rfl
theorem RowsO.each (h:RowsO w m rows)(hl:∀x∈rows,0<x.l.length):∀y∈rows.map qnJ,(LineAt w y.b y.l y.cap/\y.l.length=y.n)/\m<=y.b/\ ∃x∈rows,x.b=Option.some y.b:=fun y hy=>by
 obtain⟨x,hx,rfl⟩:=j7.1 hy
 obtain⟨b,hb⟩:=h.some hx (hl x hx)
 obtain⟨h1,h2⟩:=h.line x hx
 have e:(qnJ x).b=b:=by show x.b.getD 0=b;rw[hb];rfl
 refine⟨⟨?_,h2⟩,?_,x,hx,by rw[e,hb]⟩
 ·unfold LineAt
  rw[e]
  show Own w qdn 6 (Option.some b) x.l.length x.cap (qan x.l)
  rw[h2,<-hb]
  exact h1
 ·rw[e];exact h.lo x hx b hb
theorem RowsO.nodup (h:RowsO w m rows)(hl:∀x∈rows,0<x.l.length):((rows.map qnJ).map Row.b).Nodup:=by
 rw[jB];refine List.pairwise_map.2 (h.nd.imp_of_mem fun{x y} hx hy hxy=>?_);obtain⟨b,hb⟩:=h.some hx (hl x hx);obtain⟨c,hc⟩:=h.some hy (hl y hy);show¬x.b.getD 0=y.b.getD 0;rw[hb,hc];intro e;refine hxy b hb ?_;rw[hc];exact congrArg Option.some e.symm
theorem OutO.grid (h:OutO w m o n cap rows){g:Nat}{W H:Int}(hg:Blk w g [.int .i64 W,.int .i64 H,.slice (o.map at0) n cap] qgo)(hgm:g<m)(hW:1<=W/\W<=60)(hH:1<=H/\H<=60)(hn:rows.length=H.toNat)(hl:∀x∈rows,(x.l.length:Int)=W)
  {F:Nat->Prop} (hF:F g/\(∀b,o=some b->F b)/\ ∀x∈rows,∀b,x.b=some b->F b) (hlt:∀b,F b->b<w.heap.size) (hhi:∀b,F b->gTop<=b):GridAt w g ⟨W,H,rows.map RowO.l⟩ F:=by
 have a:∀x∈rows,0<x.l.length:=fun x hx=>by have:=hl x hx;omega
 have c:=h.len;obtain⟨r,rfl⟩:=qgW h.own (by omega);have f:=h.lo r rfl;have hR:=h.rs.each a;refine⟨r,cap,rows.map qnJ,?_⟩;exact
 {head:=by rw[hZ,c];exact hg
  body:=by rw[hZ,c,<-h.rs.val a];exact h.own
  line:=fun y hy=>(hR y hy).1
  lines:=by rw[jB];rfl
  ok:=⟨hW,hH,by rw[hZ];exact hn,fun l d=>by
   obtain⟨x,hx,rfl⟩:=j7.1 d;have:=hl x hx;show x.l.length=W.toNat;omega⟩
  gr:=by omega
  gb:=fun y hy=>by
   obtain⟨_,i,x,hx,hb⟩:=hR y hy;exact⟨by omega,fun e=>h.off h.own x hx _ hb (by rw[e])⟩
  nodup:=h.rs.nodup a
  inF:=⟨hF.1,hF.2.1 r rfl,fun y hy=>by obtain⟨_,_,x,hx,hb⟩:=hR y hy;exact hF.2.2 x hx _ hb⟩
  lt:=hlt
  hi:=hhi}
theorem OutO.linesAt (h:OutO w m o n cap rows)(hl:∀x∈rows,0<x.l.length){K:Nat->Prop}(hK:(∀b,o=some b->K b)/\ ∀x∈rows,∀b,x.b=some b->K b)(hlt:∀b,K b->b<w.heap.size)(hhi:∀b,K b->gTop<=b):LinesAt w (o.map at0) n (rows.map qnJ) K:=by
 have hR:=h.rs.each hl;exact
 {rd:=by rw[<-h.rs.val hl];exact h.own.rd
  len:=by rw[hZ];exact h.len
  line:=fun y hy=>(hR y hy).1
  inK:=fun y hy=>by obtain⟨_,_,x,hx,hb⟩:=hR y hy;exact hK.2 x hx _ hb
  aK:=fun ad e=>by
   cases o with
   |none=>cases e
   |some b=>cases e;exact hK.1 b rfl
  lt:=hlt
  hi:=hhi}
end
structure Under (o:Option Nat)(rows:List RowO)(m:Nat):Prop where
 o:∀b,o=some b->b<m
 r:∀x∈rows,∀b,x.b=some b->b<m
theorem OutO.under {w:World}{m n cap:Nat}{o:Option Nat}{rows:List RowO}(h:OutO w m o n cap rows):Under o rows w.heap.size:=
 ⟨fun b e=>by have:=h.own;rw[e]at this;exact this.lt,fun x hx b e=>h.rs.lt x hx b e⟩
theorem term_of {w:World}{t g q m0 m1 m2 m3 m4 n1 c1 n2 c2 n3 c3 n4 c4:Nat}{o1 o2 o3 o4:Option Nat}{r1 r2 r3:List RowO}{T:TS}(hd:DecOk T)
  (hb:Blk w t (T.vals g q (.slice (o3.map at0) n3 c3) (.slice (o4.map at0) n4 c4)) qar)
  (hg:Blk w g [.int .i64 T.grid.w,.int .i64 T.grid.h,.slice (o1.map at0) n1 c1] qgo) (hq:Blk w q [.int .i64 T.grid.w,.int .i64 T.grid.h,.slice (o2.map at0) n2 c2] qgo)
  (h1:OutO w m1 o1 n1 c1 r1) (h2:OutO w m2 o2 n2 c2 r2) (h3:OutO w m3 o3 n3 c3 r3) (h4:Own w tI 1 o4 n4 c4 (T.parser.params.map (Value.int .i64))) (l4:∀b,o4=some b->m4<=b)
  (e1:T.grid.lines=r1.map RowO.l) (e2:T.other.lines=r2.map RowO.l) (e3:T.back=r3.map RowO.l)
  (k1:Under o1 r1 m2) (k2:Under o2 r2 m3) (k3:Under o3 r3 m4) (h7:gTop<=m0) (ht:m0<=t/\t<m1) (hgm:m0<=g/\g<m1) (hqm:m0<=q/\q<m1) (htg:¬t=g) (htq:¬t=q) (hgq:¬g=q) (hm:m1<=m2/\m2<=m3/\m3<=m4/\m4<=w.heap.size):
  TermAt w t T (fun b=>m0<=b/\b<w.heap.size):=by
 obtain⟨⟨y,z,A⟩,⟨a,B,C⟩,cu,sa,aw,D,E,G,wr,og,H,I,J,L,sh,al,ti,bk,pp,re⟩:=T;have u3:=h3.under;have hw:=hd.w;have hh:=hd.h;obtain⟨c,d⟩:=hd.o;have g1:=hd.g;have g2:=hd.g2;have f:=hd.k;dsimp only at*;subst e1 e2 e3 c d;have i:∀x∈r1,(x.l.length:Int)=a:=fun x hx=>(g1.2 _ (jh hx)).1;have j:∀x∈r2,(x.l.length:Int)=a:=fun x hx=>(g2.2 _ (jh hx)).1;have p:∀x∈r3,0<x.l.length:=fun x hx=>(f.2 _ (jh hx)).1;have s:=h1.grid hg (by omega) hw hh (by have:=g1.1;rwa[hZ]at this) i (F:=fun b=>b=g\/(m1<=b/\b<m2)) ⟨.inl rfl,fun b e=> .inr ⟨h1.lo b e,k1.o b e⟩,fun x hx b e=> .inr ⟨h1.rs.lo x hx b e,k1.r x hx b e⟩⟩ (fun b hb=>by omega) (fun b hb=>by omega);have u:=h2.grid hq (by omega) hw hh (by have:=g2.1;rwa[hZ]at this) j (F:=fun b=>b=q\/(m2<=b/\b<m3)) ⟨.inl rfl,fun b e=> .inr ⟨h2.lo b e,k2.o b e⟩,fun x hx b e=> .inr ⟨h2.rs.lo x hx b e,k2.r x hx b e⟩⟩ (fun b hb=>by omega) (fun b hb=>by omega);have v:=h3.linesAt p (K:=fun b=>m3<=b/\b<m4) ⟨fun b e=>⟨h3.lo b e,k3.o b e⟩,fun x hx b e=>⟨h3.rs.lo x hx b e,k3.r x hx b e⟩⟩ (fun b hb=>by omega) (fun b hb=>by omega);refine⟨g,q,o3.map at0,n3,c3,o4.map at0,n4,c4,fun b=>b=g\/(m1<=b/\b<m2),fun b=>b=q\/(m2<=b/\b<m3),fun b=>m3<=b/\b<m4,fun b=>m4<=b/\b<w.heap.size,?_⟩;exact
 {blk:=hb
  g1:=s
  g2:=u
  bk:=⟨_,v,by rw[jB];rfl⟩
  bcap:=⟨h3.own.2.1,fun e=>by
   cases o3 with
   |none=>exact(h3.own.2.2.2.1 rfl).2
   |some b=>cases e⟩
  ps:=⟨h4.rd,by have:=h4.1;rwa[hZ,iN]at this,(fun e=>by
   cases o4 with
   |none=>exact(h4.2.2.2.1 rfl).2
   |some b=>cases e),fun ad e=>by
   cases o4 with
   |none=>cases e
   |some b=>cases e;exact⟨l4 b rfl,h4.lt⟩⟩
  pz:=⟨o4,rfl⟩
  bz:=by
   cases o3 with
   |none=>exact .inl rfl
   |some b=>exact .inr ⟨b,0,rfl⟩
  t1:=fun h=>by omega
  t2:=fun h=>by omega
  tB:=fun h=>by omega
  tP:=fun h=>by omega
  a12:=fun b h1 h2=>by omega
  a1B:=fun b h1 h2=>by omega
  a2B:=fun b h1 h2=>by omega
  a1P:=fun b h1 h2=>by omega
  a2P:=fun b h1 h2=>by omega
  inF:=⟨by omega,fun b h=>by omega,fun b h=>by omega,fun b h=>by omega,fun b h=>by omega⟩
  lt:=fun b h=>h.2
  hi:=fun b h=>by omega}
theorem qqe {s s1:RS}(h:qiO s=(none,s1)):qmc s=none:=by unfold qmc;rw[h]
theorem qf8 {s s1:RS}{T:TS}(h:qiO s=(some T,s1)):qmc s=qk4 T T.grid.w T.grid.h s1:=by unfold qmc;rw[h]
theorem qqf {s s1:RS}{T:TS}(h:qiO s=(some T,s1)):T.other=T.grid:=by
 unfold qiO at h;dsimp only at h;split at h
 ·cases h
 simp only[ib,ij]at h;rw[<-h.1];rfl
theorem qnK (D:Nat)(a:Option Addr)(n cap:Nat)(us:List Int)(ot:Option TS)(w:World)(hT:LT w)(h7:gTop<=w.heap.size)(hr:Rd w a (u8s us))(hl:us.length=n)(hle:n<=cap)(hz:(n=0/\cap=0)\/ ∃o,a=some ⟨D,o,none⟩)(hb:qat us)(hn:n<=100000000)(hD:D<w.heap.size)(hX:qmc (some us)=ot):CP 62 [.slice a n cap].toArray w fun e w'=>
 ∃v x,e= .returned (.tuple #[v,iX x])/\Ch (fun _=>False) w w'/\((ot=none/\v= .pointer none/\x=1)\/ ∃t T,ot=some T/\v=pX t/\x=0/\TermAt w' t T (fun b=>w.heap.size<=b/\b<w'.heap.size)):=by
 refine yA Tryz.func62 rfl<|yx 2<|ysr<|yq 1<|yo (yC (of_any D a n cap us _ hr hl hle hz hb hn hD) ?_);rintro _ gp ⟨rv,rfl,gq,aB,bI⟩;refine⟨_,rfl,?_⟩;have aV:=zu (zm w) bI iZ;have bJ:=aB.rs;refine yq 3<|yo (yN [pX rv,.bool true] 165 fun gr sr bK gs aW aX=>?_);have gu:=zn bK aV;have B:¬sr=rv:=by have:=aB.lt;omega
 have L:¬sr=D:=by omega
 have af:=zu aV aX iZ;have aY:=aB.ch aX id id;have gv:=aW.lt;have gw:=aY.lt;refine yz 5<|ysr<|yq 1 ?_;obtain⟨gx,s1,hH⟩:∃o s',qiO (some us)=(o,s'):=⟨_,_,rfl⟩
 refine yo (yC (qqd ⟨aW,aY,B,L⟩ (qaW (Up.ch af) hT (fun _ h=>h.elim)) (by omega) (by omega) hH) ?_);rintro _ d ⟨v0,rfl,aZ,bM,bN⟩;refine⟨_,rfl,?_⟩;have b3:=zu af bM (fun i hi h=>h.elim (fun(h:i=sr)=>by omega) (fun(h:i=rv)=>by omega));rcases bN with⟨rfl,rfl⟩|⟨t,T,rfl,rfl,bO⟩
 ·refine yz 3<|ys<|yx 2<|yct<|yx 2<|q9 (rS (yR2 [.pointer none,iX 1] .z ?_));rw[qqe hH]at hX;exact⟨_,_,rfl,Up.ch b3,.inl ⟨hX.symm,rfl,rfl⟩⟩
 obtain⟨g,q,ba,bn,bc,pa,pn,pc,F1,F2,FB,FP,hI⟩:=bO;obtain⟨r1,gC,gD,ag⟩:=hI.g1;obtain⟨r2,gF,gG,au⟩:=hI.g2;have gH:=hI.inF.1;have gI:=hI.inF.2.1 g ag.inF.1;have gJ:=hI.inF.2.2.1 q au.inF.1;have C:Df t g:=fun e=>hI.t1 (e▸ag.inF.1);have E:Df t q:=fun e=>hI.t2 (e▸au.inF.1);have aC:Df g q:=fun e=>hI.a12 g ag.inF.1 (e▸au.inF.1);obtain⟨gK,gL,_⟩:=ag.ok;have j:Df t sr:=(show¬t=sr by omega)
 have f:Df t rv:=(show¬t=rv by omega)
 have M:Df g sr:=(show¬g=sr by omega)
 have m:Df g rv:=(show¬g=rv by omega)
 have N:Df q sr:=(show¬q=sr by omega)
 have r:Df q rv:=(show¬q=rv by omega)
 have av:Df sr rv:=B;have gM:w.heap.size<=t:=by have:=zzs af;omega
 have gN:w.heap.size<=g:=by have:=zzs af;omega
 have gO:w.heap.size<=q:=by have:=zzs af;omega
 refine yz 3<|ys<|yx 2<|ycf<|yk<|ys<|ys<|yD [9] fun bP gP W=>?_;have b4:=zu b3 W iZ;have bQ:Ch (fun _=>True) d bP:=zt (Ch.refl (fun _=>True) d) W (fun _ _ _=>trivial);have aD:=aZ.blk.ch W id;have aE:=aZ.rd.ch W id id;have aF:=hI.blk.ch W id;have bR:=ag.head.ch W id;have bS:=au.head.ch W id;refine yd [0,1,2,3,4,5,6,7,8,11] [] .z<|yK 9 (yB [.pointer (some ⟨t,2,none⟩),.pointer (some ⟨t,10,none⟩),.pointer (some ⟨t,18,none⟩)] 167 3 fun bT a7 bU gQ b5 X=>?_);have gR:=zn bU b4;have bV:=zu b4 X iZ;have bW:Ch (fun _=>True) d bT:=zt bQ X (fun _ _ _=>trivial);have bX:=aD.ch X id;have bY:=aE.ch X id id;have bZ:=aF.ch X id;have c0:=bR.ch X id;have c1:=bS.ch X id;refine q8<|yd [10] [] .z<|yDe (nS ?_);refine qa<|yU 4 (yU1 ?_);refine yx 1<|ys<|yct<|yk<|ys<|qa<|ysr<|yp 3 [] (.i 0 (3) (.l (b5.c 0) .z))<|ye<|yD [16,18] fun c2 gS O=>?_;have c3:=zu bV O iZ;have c4:Ch (fun _=>True) d c2:=zt bW O (fun _ _ _=>trivial);have c5:=bX.ch O id;have c6:=bY.ch O id id;have aG:=bZ.ch O id;have aH:=c0.ch O id;have c7:=c1.ch O id;have c8:=b5.ch O id;refine yd (uL 0 16) [] (.l (aG.c 0) (.l (aH.c 0) (.l (aG.c 0) (.l (aH.c 1) .z)))) ?_;obtain⟨Y,c9,ca,ah⟩:∃c ok s',qj7 T.grid.w T.grid.h s1=(c,ok,s'):=⟨_,_,_,rfl⟩
 refine yK 16 (yQ (qem ⟨c5,c6,B,L⟩ ah (by omega) (by omega)) ?_);rintro cb ⟨b6,a8⟩;have cc:=zu c3 a8 (fun i hi h=>h.elim (fun(h:i=sr)=>by omega) (fun(h:i=rv)=>by omega));have cd:Ch (fun _=>True) d cb:=zt c4 a8 (fun _ _ _=>trivial);have ce:=aG.ch a8 (fun h=>h.elim j f);have cf:=aH.ch a8 (fun h=>h.elim M m);have cg:=c7.ch a8 (fun h=>h.elim N r);have ci:=c8.ch a8 (fun h=>h.elim (fun(h:a7=sr)=>by have:=aD.lt;omega) (fun(h:a7=rv)=>by have:=aE.lt;omega));refine q8<|yd [17] [] .z<|yK 18 (yS ce fun cj ck Z=>?_);have cl:=zu cc Z (fun i hi (h:i=t)=>by omega);have cm:Ch (fun _=>True) d cj:=zt cd Z (fun _ _ _=>trivial);have cn:=cf.ch Z (fun h=>C h.symm);have co:=cg.ch Z (fun h=>E h.symm);have b7:=ci.ch Z (fun(h:a7=t)=>by have:=aF.lt;omega);have cp:=b6.blk.ch Z (fun h=>j h.symm);have cq:=b6.rd.ch Z (fun h=>f h.symm) (fun(h:D=t)=>by omega);have cr:Blk _ t (TS.vals ({T with cursor:=Y}:TS) g q (.slice ba bn bc) (.slice pa pn pc)) qar:=Blk.to ck (by kernel_rfl);refine q8<|yDe (nB (nS ?_));refine q7<|yp 2 [] (.q6 1 .z)<|yE (nU (yU1 ?_));refine yx 1<|ys<|yct<|yk<|ys<|qa<|ysr<|yp 3 [] (.i 1 (3) (.l (b7.c 1) .z))<|ye<|yD [16,18] fun cs gT P=>?_;have ct:=zu cl P iZ;have cu:Ch (fun _=>True) d cs:=zt cm P (fun _ _ _=>trivial);have aI:=cn.ch P id;have cv:=co.ch P id;have cw:=b7.ch P id
 have cx:=cp.ch P id;have cy:=cq.ch P id id;have aJ:=cr.ch P id;refine yd (uL 0 16) [] (.l (aJ.c 0) (.l (aI.c 0) (.l (aJ.c 0) (.l (aI.c 1) .z)))) ?_;obtain⟨a9,cz,cA,ai⟩:∃c ok s',qj7 T.grid.w T.grid.h ca=(c,ok,s'):=⟨_,_,_,rfl⟩
 refine yK 16 (yQ (qem ⟨cx,cy,B,L⟩ ai (by omega) (by omega)) ?_);rintro cB ⟨b8,aa⟩;have cC:=zu ct aa (fun i hi h=>h.elim (fun(h:i=sr)=>by omega) (fun(h:i=rv)=>by omega));have cD:Ch (fun _=>True) d cB:=zt cu aa (fun _ _ _=>trivial);have cE:=aI.ch aa (fun h=>h.elim M m);have cF:=cv.ch aa (fun h=>h.elim N r);have cG:=cw.ch aa (fun h=>h.elim (fun(h:a7=sr)=>by have:=aD.lt;omega) (fun(h:a7=rv)=>by have:=aE.lt;omega));have cH:=aJ.ch aa (fun h=>h.elim j f);refine q8<|yd [17] [] .z<|yK 18 (yS cH fun cI cJ a0=>?_);have cK:=zu cC a0 (fun i hi (h:i=t)=>by omega);have cL:Ch (fun _=>True) d cI:=zt cD a0 (fun _ _ _=>trivial);have cM:=cE.ch a0 (fun h=>C h.symm);have cN:=cF.ch a0 (fun h=>E h.symm);have cO:=cG.ch a0 (fun(h:a7=t)=>by have:=aF.lt;omega);have cP:=b8.blk.ch a0 (fun h=>j h.symm);have cQ:=b8.rd.ch a0 (fun h=>f h.symm) (fun(h:D=t)=>by omega);have cR:Blk _ t (TS.vals ({T with cursor:=Y,saved:=a9}:TS) g q (.slice ba bn bc) (.slice pa pn pc)) qar:=Blk.to cJ (by kernel_rfl);refine q8<|yDe (nB (nS ?_));refine q7<|yp 2 [] (.q6 2 .z)<|yE (nU (yU1 ?_));refine yx 1<|ys<|yct<|yk<|ys<|qa<|ysr<|yp 3 [] (.i 2 (3) (.l (cO.c 2) .z))<|ye<|yD [16,18] fun cS gU a1=>?_;have cT:=zu cK a1 iZ;have cU:Ch (fun _=>True) d cS:=zt cL a1 (fun _ _ _=>trivial);have aK:=cM.ch a1 id;have cV:=cN.ch a1 id
 have cW:=cP.ch a1 id;have cX:=cQ.ch a1 id id;have aL:=cR.ch a1 id;refine yd (uL 0 16) [] (.l (aL.c 0) (.l (aK.c 0) (.l (aL.c 0) (.l (aK.c 1) .z)))) ?_;obtain⟨aj,cY,cZ,ak⟩:∃c ok s',qj7 T.grid.w T.grid.h cA=(c,ok,s'):=⟨_,_,_,rfl⟩
 refine yK 16 (yQ (qem ⟨cW,cX,B,L⟩ ak (by omega) (by omega)) ?_);rintro d0 ⟨b9,al⟩;have d1:=zu cT al (fun i hi h=>h.elim (fun(h:i=sr)=>by omega) (fun(h:i=rv)=>by omega));have d2:Ch (fun _=>True) d d0:=zt cU al (fun _ _ _=>trivial);have d3:=aK.ch al (fun h=>h.elim M m);have d4:=cV.ch al (fun h=>h.elim N r);have d5:=aL.ch al (fun h=>h.elim j f);refine q8<|yd [17] [] .z<|yK 18 (yS d5 fun d6 d7 ab=>?_);have d8:=zu d1 ab (fun i hi (h:i=t)=>by omega);have d9:Ch (fun _=>True) d d6:=zt d2 ab (fun _ _ _=>trivial);have da:=d3.ch ab (fun h=>C h.symm);have db:=d4.ch ab (fun h=>E h.symm);have dc:=b9.blk.ch ab (fun h=>j h.symm);have dd:=b9.rd.ch ab (fun h=>f h.symm) (fun(h:D=t)=>by omega);have de:Blk _ t (TS.vals ({T with cursor:=Y,saved:=a9,away:=aj}:TS) g q (.slice ba bn bc) (.slice pa pn pc)) qar:=Blk.to d7 (by kernel_rfl);refine q8<|yDe (nB (nS ?_));refine q7<|yp 2 [] (.q6 3 .z)<|yE (nU (yU1 ?_));refine yx 1<|ys<|ycf<|qm (eS (qd (qb (nS ?_))));refine ys<|ys<|yD [8] fun df gV a2=>?_;have bb:=zu d8 a2 iZ;have dg:Ch (fun _=>True) d df:=zt d9 a2 (fun _ _ _=>trivial);have bd:=da.ch a2 id;have dh:=db.ch a2 id;have bf:=dc.ch a2 id;have bg:=dd.ch a2 id id;have aM:=de.ch a2 id;refine yd [0,1,2,3,4,5,6,7,10] [] (.l (aM.c 0) (.l (aM.c 1) .z))<|yK 8 (yB [pX g,pX q] 82 2 fun di aw dj gW bh a3=>?_)
 have gX:=zn dj bb;have dk:=zu bb a3 iZ;have dl:Ch (fun _=>True) d di:=zt dg a3 (fun _ _ _=>trivial);have dm:=bd.ch a3 id;have dn:=dh.ch a3 id;have dp:=bf.ch a3 id;have dq:=bg.ch a3 id id;have dr:=aM.ch a3 id;refine q8<|yd [9] [] .z<|yDe (nS ?_);refine qa<|yU 3 (yU1 ?_);refine yx 1<|ys<|yct<|yk<|ys<|qa<|ysr<|yp 3 [] (.i 0 (2) (.l (bh.c 0) .z))<|ye<|yD [16,19] fun a4 gY Q=>?_;have bi:=zu dk Q iZ;have ds:Ch (fun _=>True) d a4:=zt dl Q (fun _ _ _=>trivial);have aN:=dm.ch Q id;have dt:=dn.ch Q id;have du:=dp.ch Q id;have dv:=dq.ch Q id id;have aO:=dr.ch Q id;have dw:=bh.ch Q id;refine yd (uL 0 16) [] (.l (aO.c 0) (.l (aN.c 0) (.l (aO.c 0) (.l (aN.c 1) .z)))) ?_;have gZ:d.heap.size<=a4.heap.size:=zzs ds;obtain⟨h0,dx,f194,am⟩:∃l s' f',qam T.grid.w (T.grid.h:Int).toNat [] cZ (((true&&c9)&&cz)&&cY)=(l,s',f'):=⟨_,_,_,rfl⟩
 refine yK 16 (yC (qfF ⟨du,dv,B,L⟩ (qaW (Up.ch bi) hT (fun _ h=>h.elim)).tb (by omega) (by omega) (by omega) (by omega) am) ?_);rintro _ dy ⟨bj,bk,bl,h1,rfl,dz,dA,bm,ac⟩;refine⟨_,rfl,?_⟩;have dB:=zu bi ac (fun i hi h=>h.elim (fun(h:i=sr)=>by omega) (fun(h:i=rv)=>by omega));have dC:Ch (fun _=>True) a4 dy:=zt (Ch.refl (fun _=>True) a4) ac (fun _ _ _=>trivial);have dD:=aN.ch ac (fun h=>h.elim M m);have dE:=dt.ch ac (fun h=>h.elim N r);have dF:=aO.ch ac (fun h=>h.elim j f);have dG:=dw.ch ac (fun h=>h.elim (fun(h:aw=sr)=>by have:=bf.lt;omega) (fun(h:aw=rv)=>by have:=bg.lt;omega));refine q8<|yd [17,18] [] .z<|dkeep [4,5,60,61,62,82,84] (f':=[(4,pX sr),(5,pX t),(60,.slice (some ⟨aw,0,none⟩) 2 2),(61,iX 2),(62,iX 0),(82,.slice (bj.map at0) bk bl),(84,.pointer (some ⟨g,2,none⟩))])<|yK 19 (yT [iX T.grid.w,iX T.grid.h,.slice (bj.map at0) bk bl] dD fun dH dI R=>?_);have dJ:=zu dB R (fun i hi (h:i=g)=>by omega);have dK:Ch (fun _=>True) a4 dH:=zt dC R (fun _ _ _=>trivial);have dL:=dE.ch R (fun h=>aC h.symm);have dM:=dF.ch R C;have dN:=dG.ch R (fun(h:aw=g)=>by have:=bd.lt;omega);have dO:=bm.blk.ch R (fun h=>M h.symm);have dP:=bm.rd.ch R (fun h=>m h.symm) (fun(h:D=g)=>by omega);have dQ:=dz.ch R (fun b hb hl (h:b=g)=>by omega);refine q8<|yDe (nB (nS ?_));refine q7<|yp 2 [] (.q6 1 .z)<|yE (nU (yU1 ?_))
 refine yx 1<|ys<|yct<|yk<|ys<|qa<|ysr<|yp 3 [] (.i 1 (2) (.l (dN.c 1) .z))<|ye<|yD [16,19] fun ad h2 S=>?_;have bo:=zu dJ S iZ;have dR:Ch (fun _=>True) a4 ad:=zt dK S (fun _ _ _=>trivial);have dS:=dL.ch S id;have aP:=dM.ch S id;have dT:=dO.ch S id;have dU:=dP.ch S id id;have bp:=dQ.ch S (fun _ _ _ h=>h);have aQ:=dI.ch S id;refine yd (uL 0 16) [] (.l (aP.c 0) (.l (aQ.c 0) (.l (aP.c 0) (.l (aQ.c 1) .z)))) ?_;have h3:a4.heap.size<=ad.heap.size:=zzs dR;obtain⟨h4,dV,f239,an⟩:∃l s' f',qam T.grid.w (T.grid.h:Int).toNat [] dx f194=(l,s',f'):=⟨_,_,_,rfl⟩
 have dW:=bp.under;refine yK 16 (yC (qfF ⟨dT,dU,B,L⟩ (qaW (Up.ch bo) hT (fun _ h=>h.elim)).tb (by omega) (by omega) (by omega) (by omega) an) ?_);rintro _ dX ⟨dY,dZ,e0,h5,rfl,e1,e2,bq,ae⟩;refine⟨_,rfl,?_⟩;have e3:=zu bo ae (fun i hi h=>h.elim (fun(h:i=sr)=>by omega) (fun(h:i=rv)=>by omega));have e4:Ch (fun _=>True) ad dX:=zt (Ch.refl (fun _=>True) ad) ae (fun _ _ _=>trivial);have e5:=dS.ch ae (fun h=>h.elim N r);have e6:=aP.ch ae (fun h=>h.elim j f);have e7:=bp.ch ae (fun b hb hl h=>h.elim (fun(h:b=sr)=>by omega) (fun(h:b=rv)=>by omega));have e8:=aQ.ch ae (fun h=>h.elim M m);refine q8<|yd [17,18] [] .z<|yK 19 (yT [iX T.other.w,iX T.other.h,.slice (dY.map at0) dZ e0] e5 fun k e9 U=>?_);have br:=zu e3 U (fun i hi (h:i=q)=>by omega);have ea:Ch (fun _=>True) ad k:=zt e4 U (fun _ _ _=>trivial);have eb:=e6.ch U E;have ec:=e7.ch U (fun b hb hl (h:b=q)=>by omega);have ed:=e8.ch U aC;have ee:=bq.blk.ch U (fun h=>N h.symm);have ef:=bq.rd.ch U (fun h=>r h.symm) (fun(h:D=q)=>by omega);have bs:=e1.ch U (fun b hb hl (h:b=q)=>by omega);refine q8<|yDe (nB (nS ?_));refine q7<|yp 2 [] (.q6 2 .z)<|yE (nU (yU1 ?_));refine yx 1<|ys<|ycf<|qm (eS (qd (qb (nS ?_))));refine ysr<|yq 2 ?_;have h6:ad.heap.size<=k.heap.size:=zzs ea;obtain⟨ax,eg,f273,ao⟩:∃l s' f',qfS dV f239=(l,s',f'):=⟨_,_,_,rfl⟩
 have eh:=bs.under;refine yo (yC (qqa ⟨ee,ef,B,L⟩ (qaW (Up.ch br) hT (fun _ h=>h.elim)).tb (by omega) (by omega) ao) ?_);rintro _ ei ⟨ay,az,aA,h8,rfl,ej,ek,bt,a5⟩;refine⟨_,rfl,?_⟩;have el:=zu br a5 (fun i hi h=>h.elim (fun(h:i=sr)=>by omega) (fun(h:i=rv)=>by omega));have em:Ch (fun _=>True) k ei:=zt (Ch.refl (fun _=>True) k) a5 (fun _ _ _=>trivial);have en:=eb.ch a5 (fun h=>h.elim j f);have eo:=ec.ch a5 (fun b hb hl h=>h.elim (fun(h:b=sr)=>by omega) (fun(h:b=rv)=>by omega));have ep:=ed.ch a5 (fun h=>h.elim M m);have er:=bs.ch a5 (fun b hb hl h=>h.elim (fun(h:b=sr)=>by omega) (fun(h:b=rv)=>by omega));have es:=e9.ch a5 (fun h=>h.elim N r);refine yq 5<|yo (yS en fun et eu F=>?_);have ev:=zu el F (fun i hi (h:i=t)=>by omega);have ew:Ch (fun _=>True) k et:=zt em F (fun _ _ _=>trivial);have ex:=eo.ch F (fun b hb hl (h:b=t)=>by omega);have ey:=ep.ch F (fun h=>C h.symm);have ez:=er.ch F (fun b hb hl (h:b=t)=>by omega);have eA:=es.ch F (fun h=>E h.symm);have eB:=bt.blk.ch F (fun h=>j h.symm);have eC:=bt.rd.ch F (fun h=>f h.symm) (fun(h:D=t)=>by omega);have eD:=ej.ch F (fun b hb hl (h:b=t)=>by omega);have eE:Blk _ t (TS.vals ({T with back:=ax,cursor:=Y,saved:=a9,away:=aj}:TS) g q (.slice (ay.map at0) az aA) (.slice pa pn pc)) qar:=Blk.to eu (by kernel_rfl);refine ye<|ys<|qaI (· =rv) [11,14,17] (by kernel_rfl) (fun eF h9 s=>?_)
 have eG:=zu ev s iZ;have eH:Ch (fun _=>True) k eF:=zt ew s (fun _ _ _=>trivial);have eI:=ex.ch s (fun _ _ _ h=>h);have eJ:=ey.ch s id;have eK:=ez.ch s (fun _ _ _ h=>h);have eL:=eA.ch s id;have aR:=eB.ch s id;have eM:=eC.ch s id id;have eN:=eD.ch s (fun _ _ _ h=>h);have eO:=eE.ch s id;refine ydC [0,1,2,3,4,5,7,8,9,10] [] (fun u hu=>(.l (qg hu (aR.c 0) av) (.l (qg hu (aR.c 0) av) .z))) ?_;obtain⟨aS,eP,ap⟩:∃x s',qbb 40 eg=(x,s'):=⟨_,_,rfl⟩
 refine yH 6 (yQ (qcU (most:=40) eM ap (by decide)) ?_);rintro eQ ⟨eR,y⟩;have eT:=zu eG y (fun i hi (h:i=rv)=>by omega);have eU:Ch (fun _=>True) k eQ:=zt eH y (fun _ _ _=>trivial);have eV:=eI.ch y (fun b hb hl (h:b=rv)=>by omega);have eW:=eJ.ch y m;have eX:=eK.ch y (fun b hb hl (h:b=rv)=>by omega);have eY:=eL.ch y r;have eZ:=aR.ch y av;have fa:=eN.ch y (fun b hb hl (h:b=rv)=>by omega);have fb:=eO.ch y f;refine qA y iZ ?_;obtain⟨bu,fc,aq⟩:∃x s',qbb 400 eP=(x,s'):=⟨_,_,rfl⟩
 refine yK 11 (yQ (qcU (most:=400) eR aq (by decide)) ?_);rintro fd ⟨fe,G⟩;have ff:=zu eT G (fun i hi (h:i=rv)=>by omega);have fg:Ch (fun _=>True) k fd:=zt eU G (fun _ _ _=>trivial);have fh:=eV.ch G (fun b hb hl (h:b=rv)=>by omega);have fi:=eW.ch G m;have fj:=eX.ch G (fun b hb hl (h:b=rv)=>by omega);have fk:=eY.ch G r;have fl:=eZ.ch G av;have fm:=fa.ch G (fun b hb hl (h:b=rv)=>by omega);have fn:=fb.ch G f;refine q8<|yd [12,13] [] .z<|yK 14 (yS fn fun fo fp H=>?_);have fq:=zu ff H (fun i hi (h:i=t)=>by omega);have fr:Ch (fun _=>True) k fo:=zt fg H (fun _ _ _=>trivial);have fs:=fh.ch H (fun b hb hl (h:b=t)=>by omega);have ft:=fi.ch H (fun h=>C h.symm);have fu:=fj.ch H (fun b hb hl (h:b=t)=>by omega);have fv:=fk.ch H (fun h=>E h.symm);have fw:=fl.ch H (fun h=>j h.symm);have fx:=fm.ch H (fun b hb hl (h:b=t)=>by omega);have fy:=fe.ch H (fun h=>f h.symm) (fun(h:D=t)=>by omega);have fz:Blk _ t (TS.vals ({T with back:=ax,cursor:=Y,saved:=a9,away:=aj,title:=aS}:TS) g q (.slice (ay.map at0) az aA) (.slice pa pn pc)) qar:=Blk.to fp (by kernel_rfl);refine q8<|yd [15,16] [] .z<|yK 17 (yS fz fun a6 fA I=>?_);have bv:=zu fq I (fun i hi (h:i=t)=>by omega);have fB:Ch (fun _=>True) k a6:=zt fr I (fun _ _ _=>trivial);have fC:=fs.ch I (fun b hb hl (h:b=t)=>by omega);have fD:=ft.ch I (fun h=>C h.symm)
 have fE:=fu.ch I (fun b hb hl (h:b=t)=>by omega);have fF:=fv.ch I (fun h=>E h.symm);have fG:=fw.ch I (fun h=>j h.symm);have bw:=fx.ch I (fun b hb hl (h:b=t)=>by omega);have fH:=fy.ch I (fun h=>f h.symm) (fun(h:D=t)=>by omega);have fI:Blk _ t (TS.vals ({T with back:=ax,cursor:=Y,saved:=a9,away:=aj,title:=aS,reply:=bu}:TS) g q (.slice (ay.map at0) az aA) (.slice pa pn pc)) qar:=Blk.to fA (by kernel_rfl);refine q8<|yDe (nS ?_);refine ysr<|yq 2 ?_;have ha:k.heap.size<=a6.heap.size:=zzs fB;obtain⟨J,fJ,f392,ar⟩:∃p s' f',qiN fc f273=(p,s',f'):=⟨_,_,_,rfl⟩
 have fK:=bw.under;refine yo (yC (qlj ⟨fG,fH,B,L⟩ (qaW (Up.ch bv) hT (fun _ h=>h.elim)).ut (by omega) (by omega) ar) ?_);rintro _ fL ⟨fM,fN,fO,rfl,fP,bx,bz,V⟩;refine⟨_,rfl,?_⟩;have fQ:=zu bv V (fun i hi h=>h.elim (fun(h:i=sr)=>by omega) (fun(h:i=rv)=>by omega));have fR:Ch (fun _=>True) a6 fL:=zt (Ch.refl (fun _=>True) a6) V (fun _ _ _=>trivial);have fS:=fC.ch V (fun b hb hl h=>h.elim (fun(h:b=sr)=>by omega) (fun(h:b=rv)=>by omega));have fT:=fD.ch V (fun h=>h.elim M m);have fU:=fE.ch V (fun b hb hl h=>h.elim (fun(h:b=sr)=>by omega) (fun(h:b=rv)=>by omega));have fV:=fF.ch V (fun h=>h.elim N r);have fW:=bw.ch V (fun b hb hl h=>h.elim (fun(h:b=sr)=>by omega) (fun(h:b=rv)=>by omega));have fX:=fI.ch V (fun h=>h.elim j f);refine yq 5<|yo (yS fX fun fY fZ A=>?_);have bA:=zu fQ A (fun i hi (h:i=t)=>by omega);have g0:Ch (fun _=>True) a6 fY:=zt fR A (fun _ _ _=>trivial);have g3:=fS.ch A (fun b hb hl (h:b=t)=>by omega);have g4:=fT.ch A (fun h=>C h.symm);have g5:=fU.ch A (fun b hb hl (h:b=t)=>by omega);have g6:=fV.ch A (fun h=>E h.symm);have g7:=fW.ch A (fun b hb hl (h:b=t)=>by omega);have bB:=bz.blk.ch A (fun h=>j h.symm);have g8:=bz.rd.ch A (fun h=>f h.symm) (fun(h:D=t)=>by omega);have g9:=fP.ch A (fun b e (h:b=t)=>by have:=bx b e;omega);have ga:Blk _ t (TS.vals ({T with back:=ax,cursor:=Y,saved:=a9,away:=aj,title:=aS,reply:=bu,parser:={T.parser with state:=J.state,marks:=J.marks,text:=J.text,within:=J.within,utf:=⟨J.utf.b0,J.utf.b1,J.utf.b2,J.utf.n⟩,params:=J.params}}:TS) g q (.slice (ay.map at0) az aA) (.slice (fM.map at0) fN fO)) qar:=Blk.to fZ (by kernel_rfl)
 refine ye<|ys<|ysr<|yp 6 [] (.l (bB.c 1) .z)<|yw [117] (rN (rY f392)) (fun aT=>?_) fun aT=>?_
 ·have gb:=aT;refine yz 13<|yct<|yx 2<|q9 (rS (yR2 [.pointer none,iX 1] .z ?_));rw[qf8 hH,qgj ah ai ak am an ao ap aq ar]at hX;rw[if_neg (fun h=>absurd (gb.symm.trans h.1) (by decide))]at hX;exact⟨_,_,rfl,Up.ch bA,.inl ⟨hX.symm,rfl,rfl⟩⟩
 have bC:=aT;refine yp 10 [] (.l (bB.c 0) .z)<|yo (yQ (qmk g8) fun bD K=>?_);have bE:=zu bA K iZ;have gc:Ch (fun _=>True) a6 bD:=zt g0 K (fun _ _ _=>trivial);have gd:=g3.ch K (fun _ _ _ h=>h);have gf:=g4.ch K id;have gg:=g5.ch K (fun _ _ _ h=>h);have gh:=g6.ch K id;have gi:=g7.ch K (fun _ _ _ h=>h);have gj:=g9.ch K iZ;have gk:=ga.ch K id;refine yz 13<|yc (rN (rY (decide (fJ=some [])))) (fun aU=>?_) fun aU=>?_
 ·have gl:=aU;refine yx 2<|q9 (rS (yR2 [.pointer none,iX 1] .z ?_));rw[qf8 hH,qgj ah ai ak am an ao ap aq ar]at hX;rw[if_neg (fun h=>jl gl h.2)]at hX;exact⟨_,_,rfl,Up.ch bE,.inl ⟨hX.symm,rfl,rfl⟩⟩
 have bF:=aU;refine yk<|yx 3<|q9 (yR2 [pX t,iX 0] .z ?_);rw[qf8 hH,qgj ah ai ak am an ao ap aq ar]at hX;have hc:a6.heap.size<=bD.heap.size:=zzs gc;rw[if_pos ⟨bC,iK bF⟩]at hX;obtain rfl:=hX.symm;have bG:=qf8 hH;rw[qgj ah ai ak am an ao ap aq ar,if_pos ⟨bC,iK bF⟩]at bG;obtain⟨_,_,_,gm⟩:=qk5 bJ bG;have gn:=qqf hH;have bH:=gh;rw[gn]at bH;exact⟨_,_,rfl,Up.ch bE,.inr ⟨t,_,rfl,rfl,rfl,term_of gm (Blk.to gk (by kernel_rfl)) gf bH gd gg gi gj bx dA.symm e2.symm ek.symm dW eh fK h7 (by omega) (by omega) (by omega) C E aC (by omega)⟩⟩
theorem qcm:qag []=[]:=rfl
theorem qbJ (x:Int)(l:List Int):qag (x::l)=qv x.toNat++qag l:=rfl
theorem qqg {w:World}{b o:Nat}{l:List Bool}(h:Rd w (some ⟨b,o,none⟩) (l.map Value.bool)){k:Nat}(hk:k<l.length):w.cell? ⟨b,o+(k:Int).toNat*1,none⟩=some (.bool (lb l k)):=by
 rw[il,iN];refine qcg h k _ ?_;rw[iM,ig hk];simp[lb,List.getD,ig hk]
theorem qh6 (l:List Bool)(h:l.length<=60):qac l<2^60:=ic (qbA _ _) (jT (by decide) h)
structure CurB (c:Cur):Prop where
  x:0<=c.x/\c.x<=1000
  y:0<=c.y/\c.y<=1000
  s:qD c.sty=true
structure ParB (p:PS):Prop where
  st:0<=p.state/\p.state<=1000
  wi:0<=p.within/\p.within<=1000
  u:0<=p.utf.n/\p.utf.n<=3
  ub:qat p.utf.pend
  m:p.marks.size<=1000
  n:p.params.length<=1000
  b:∀x∈p.params,0<=x/\x<=9999
  t:p.text.size<=1000
theorem qgk {u:US}(h:0<=u.n/\u.n<=3):u.pend.length=u.n.toNat:=by
 unfold US.pend;rw[im];simp only[iz,iP];omega
theorem qlk {w:World}{b:Nat}{c:Value}{r:List Value}{T:TypeId}{u:US}(h:Blk w b (c::uX u.b0::uX u.b1::uX u.b2::r) T):Rd w (some ⟨b,1,none⟩) (u.pend.map (Value.int .u8)):=by
 refine Rd.blk h fun j hj=>?_;unfold US.pend at hj⊢;rw[hZ,im]at hj;rw[k4,j5,if_pos (by omega),Nat.add_comm];simp only[iz,iP]at hj;obtain rfl|rfl|rfl:j=0\/j=1\/j=2:=by omega
 ·rfl
 ·rfl
 rfl
theorem qh7 (fb fo kn:Nat)(l:List Bool)(w:World)(hr:Rd w (some ⟨fb,fo,none⟩) (l.map Value.bool))(hl:l.length=kn)(hn:kn<=60):CP 56 [.slice (some ⟨fb,fo,none⟩) kn kn].toArray w (RQ (.int .u64 ((qac l:Nat):Int)) w):=by
 refine yA Tryz.func56 rfl<|yx 1<|yx 1<|ys<|yx 3<|qa<|qV [3,6,7,8] (f':=[(3,.int .u64 0),(6,.slice (some ⟨fb,fo,none⟩) kn kn),(7,iX (kn:Int)),(8,iX 0)])<|qw (σ:=Nat×Int) (fun⟨k,x⟩=>[(3,.int .u64 x),(6,.slice (some ⟨fb,fo,none⟩) kn kn),(7,iX (kn:Int)),(8,iX (k:Int))]) (fun⟨k,x⟩ u=>k<=kn/\x=((qaj (lb l) k:Nat):Int)/\Ch (fun _=>False) w u) (fun⟨k,x⟩=>kn-k) (0,0) rfl ?_ ?_
 ·exact⟨ir _,rfl,Ch.refl _ _⟩
 intro p n f r d;obtain⟨k,x⟩:=p;obtain⟨hk,hx,b⟩:=f;have g:=qbA (lb l) k;have h:=zu (zm w) b iZ;have j:=Ch.rd b hr id;refine yx 1<|ys<|yc (rL (k:Int) (kn:Int)) (fun m=>?_) fun m=>?_
 ·refine yk<|ys<|qa<|ysr<|yp 5 [] (.i (k:Int) (kn) (.l (o:=(fo+((k:Int)).toNat*1)) (qqg j (k:=k) (by omega)) .z))<|ye<|yx 1<|yc (rY (lb l k)) (fun c=>?_) fun c=>?_
  ·refine q7<|yp 5 [] (.p (q:=0<=((k:Int):Int)) (by omega) .z)<|yE (nB (nS ?_));refine q7<|yp 2 [] (.q6 ((k:Int)+1) .z)<|yE (fun a ha=>d (k+1,orF x k) _ ⟨by omega,by rw[hx,orF_eq (by omega) g,qaj,c,if_pos rfl],b⟩ (by show kn-(k+1)<kn-k;omega) a (ha.kp [3,6,7,8]))
  refine qo (nB (nS ?_));refine q7<|yp 2 [] (.q6 ((k:Int)+1) .z)<|yE (fun a ha=>d (k+1,x) _ ⟨by omega,by rw[hx,qaj,c];simp,b⟩ (by show kn-(k+1)<kn-k;omega) a (ha.kp [3,6,7,8]))
 refine qm (eS (qd (qb (nS ?_))));refine yx 2<|q9 (yR1 (.int .u64 x) ?_);exact⟨by rw[hx,show k=kn by omega,<-hl];rfl,Up.ch h⟩
theorem qfG {o:Option Nat}{n cap:Nat}{xs:List Int}{w:World}(hO:Own w tU8 1 o n cap (u8s xs))(c:Cur)(hc:CurB c)(hz:n+40<=1000000000):CP 57 [.slice (o.map at0) n cap,.agg #[iX c.x,iX c.y,.bool c.late,.bool c.sty.bold,.bool c.sty.under,.bool c.sty.turned,iX c.sty.fore,iX c.sty.back]].toArray w fun e w'=> ∃o' n' cap',e= .returned (.slice (o'.map at0) n' cap')/\Own w' tU8 1 o' n' cap' (u8s (xs++qeh c))/\n'<=n+40/\App w w' o o':=by
 have a9:=qeV hc.s;have aa:=qh6 [c.late] (by simp);have ab:=hc.x;have ac:=hc.y;refine yA Tryz.func57 rfl<|ysr<|yo (yN [iX c.x,iX c.y,.bool c.late,.bool c.sty.bold,.bool c.sty.under,.bool c.sty.turned,iX c.sty.fore,iX c.sty.back] 86 fun ad I ae af J A=>?_);have f:=zv (b:=I) hO;have K:=hO.ch A iZ;have L:=(App.refl w o).step A iZ;refine yz 2<|ys<|qaI (fun b=>o=some b) [15] (by kernel_rfl) (fun ag ah t=>?_);have B:=K.ch t iZ;have M:=L.step t iZ;have g:=J.ch t id;refine ydC [0,1,2,3,4,5,6,7,8,13,14] [3,6] (fun u hu=>(.l (qg hu (g.c 0) (fun h=>f _ h rfl)) (.p (q:=InR .u64 c.x) (qao (by omega) (by omega)) (.l (qg hu (g.c 1) (fun h=>f _ h rfl)) (.p (q:=InR .u64 c.y) (qao (by omega) (by omega)) (.l (qg hu (g.c 2) (fun h=>f _ h rfl)) (.a (qap hu (g.cs 3 5) (fun h=>f _ h rfl)) .z)))))))<|yH 9 (yB [.bool c.late] 4 1 fun ai C aj ak D k=>?_);have E:=zv (b:=C) B;have N:=B.ch k iZ;have O:=M.step k iZ;have P:=g.ch k id;refine qA k eZ<|yH 10 (yQ (qh7 C 0 1 [c.late] _ (Rd.all (cs:=[c.late].map Value.bool) D) rfl (by decide)) fun al i=>?_);have F:=N.ch i iZ;have Q:=O.step i iZ;have R:=P.ch i id;have S:=D.ch i id;refine qA i eZ<|yH 11 (yB [.int .u64 c.x,.int .u64 c.y,.int .u64 ((qac [c.late]:Nat):Int)] 110 3 fun am T an ao m j=>?_);have v:=zv (b:=T) F;have U:=F.ch j iZ;have V:=Q.step j iZ;have G:=R.ch j id
 have H:=S.ch j id;refine qA j eZ<|yH 12 (yC (qcF 3 [c.x,c.y,((qac [c.late]:Nat):Int)] U (Rd.all m) (bC (bC (bC bN))) m.lt v) ?_);rintro _ ap ⟨aq,ar,au,rfl,W,av,d⟩;refine⟨_,rfl,?_⟩;have X:=d.apart G.lt f;have Y:=d.apart H.lt E;have Z:=d.apart m.lt v;have a0:=V.trans d;have a1:=G.ch d.ch (fun h=>f _ h rfl);have a2:=H.ch d.ch (fun h=>E _ h rfl);have a3:=m.ch d.ch (fun h=>v _ h rfl);refine qA d.ch iZ<|yK 15 (yC (qdH W c.sty hc.s (by omega)) ?_);rintro _ aw ⟨a4,a5,a6,rfl,a7,ax,r⟩;refine⟨_,rfl,?_⟩;have ay:=r.apart a1.lt X;have az:=r.apart a2.lt Y;have aA:=r.apart a3.lt Z;have a8:=a0.trans r;refine q8<|yd [16] [] .z<|yDe (nS ?_);refine q9 (yR1 (.slice (a4.map at0) a5 a6) ?_);exact⟨_,_,_,rfl,by have h:=a7;unfold qeh;simp only[qbJ,qcm,ie,iH,il]at h⊢;exact h,by omega,a8⟩
theorem qnL {o:Option Nat}{n cap:Nat}{xs:List Int}{w:World}(hO:Own w tU8 1 o n cap (u8s xs))(p:PS)(hp:ParB p)(pa:Option Addr)(pn pc:Nat)(hq:Rd w pa (p.params.map (Value.int .i64)))(hql:p.params.length=pn)(hqz:pn=0\/ ∃b f,pa=some ⟨b,f,none⟩)(hpne:∀x,o=some x-> ∀b f,pa=some ⟨b,f,none⟩-> ¬x=b)(hz:n+20000<=1000000000):CP 59 [.slice (o.map at0) n cap,.agg (p.vals (.slice pa pn pc)).toArray].toArray w fun e w'=> ∃o' n' cap',e= .returned (.slice (o'.map at0) n' cap')/\Own w' tU8 1 o' n' cap' (u8s (xs++qck p))/\n'<=n+20000/\App w w' o o':=by
 have cr:=hp.st;have cs:=hp.wi;have ct:=hp.u;have cu:=hp.m;have cv:=hp.n;have cw:=hp.t;have cx:=qgk hp.u;have cy:=qb7 p.utf.pend;refine yA Tryz.func59 rfl<|ysr<|yo (yN (PS.vals p (.slice pa pn pc)) 94 fun wb bx cz cA aK af=>?_);have d:=zv (b:=bx) hO;have aL:=hO.ch af iZ;have aM:=(App.refl w o).step af iZ;refine yz 2<|qe1 (σ:=Option Nat×Nat×Nat) (fun⟨v,J,N⟩=>[(0,.slice (v.map at0) J N),(3,pX bx)]) (fun⟨v,J,N⟩ u=>Own u tU8 1 v J N (u8s ((xs++qag [p.state,p.within])++qbt (qf p.utf.pend)))/\App w u o v/\J<=n+100/\Blk u bx (PS.vals p (.slice pa pn pc)) 94/\ ∀b,v=some b-> ¬b=bx) (fun cB a2=>?_) (fun gs u18 aN=>?_)
 ·refine qaI (fun b=>o=some b) [16] (by kernel_rfl) (fun aO cC a3=>?_);have O:=aL.ch a3 iZ;have ag:=aM.step a3 iZ;have A:=aK.ch a3 id;refine ydC [0,1,2,3,4,5,6,9,10,11,12,13,14] [3,6] (fun u hu=>(.l (qg hu (A.c 0) (fun h=>d _ h rfl)) (.p (q:=InR .u64 p.state) (qao (by omega) (by omega)) (.l (qg hu (A.c 8) (fun h=>d _ h rfl)) (.p (q:=InR .u64 p.within) (qao (by omega) (by omega)) (.l (qg hu (A.c 4) (fun h=>d _ h rfl)) (.j p.utf.n (3) .z)))))))<|qas 7 15 (by kernel_rfl) (by decide) ?_ ?_
  ·refine qa4 7 _ (by kernel_rfl) rfl (yB [.int .u64 p.state,.int .u64 p.within] 110 2 fun aP aQ cD cE g P=>?_);have B:=zv (b:=aQ) O;have ah:=O.ch P iZ;have ai:=ag.step P iZ;have K:=A.ch P id;refine qA P eZ<|qas 8 15 (by kernel_rfl) (by decide) ?_ ?_
   ·refine qa4 8 _ (by kernel_rfl) rfl (yC (qcF 2 [p.state,p.within] ah (Rd.all g) (bC (bC bN)) g.lt B) ?_);rintro _ aR ⟨cF,cG,cH,rfl,aS,cI,C⟩;refine⟨_,rfl,?_⟩;have aj:=C.apart K.lt d;have aT:=C.apart g.lt B;have aU:=ai.trans C;have a4:=K.ch C.ch (fun h=>d _ h rfl);have aV:=g.ch C.ch (fun h=>B _ h rfl);refine qA C.ch iZ<|yH 15 (qE (some ⟨bx,1,none⟩) (p.utf.n:Int).toNat 3 p.utf.pend (some 22) (by kernel_rfl) (qlk a4) (qgk hp.u) ?_);refine qA (zr aR) eZ<|yK 16 (yC (qaQ aS (qf p.utf.pend) (by omega)) ?_);rintro _ cJ ⟨aW,aX,aY,rfl,aZ,cK,Q⟩;refine⟨_,rfl,?_⟩;have b3:=Q.apart a4.lt aj;have cL:=Q.apart aV.lt aT;have b4:=aU.trans Q;have b5:=a4.ch Q.ch (fun h=>aj _ h rfl);refine q8<|yd [17] [] .z<|yDe (fun a ha=>a2 (aW,aX,aY) _ ⟨aZ,b4,by omega,b5,b3⟩ a (ha.kp [0,3]))
   refine qa4 15 _ (by kernel_rfl) rfl (qE (some ⟨bx,1,none⟩) (p.utf.n:Int).toNat 3 p.utf.pend (some 22) (by kernel_rfl) (qlk K) (qgk hp.u) ?_);refine qA (zr aP) eZ<|yH 8 (yC (qcF 2 [p.state,p.within] ah (Rd.all g) (bC (bC bN)) g.lt B) ?_);rintro _ cM ⟨cN,cO,cP,rfl,b6,cQ,D⟩;refine⟨_,rfl,?_⟩;have ak:=D.apart K.lt d;have b7:=D.apart g.lt B;have b8:=ai.trans D;have al:=K.ch D.ch (fun h=>d _ h rfl);have b9:=g.ch D.ch (fun h=>B _ h rfl);refine qA D.ch iZ<|yK 16 (yC (qaQ b6 (qf p.utf.pend) (by omega)) ?_);rintro _ cR ⟨ba,bb,bc,rfl,bd,cS,R⟩;refine⟨_,rfl,?_⟩;have bf:=R.apart al.lt ak;have cT:=R.apart b9.lt b7;have bg:=b8.trans R;have bh:=al.ch R.ch (fun h=>ak _ h rfl);refine q8<|yd [17] [] .z<|yDe (fun a ha=>a2 (ba,bb,bc) _ ⟨bd,bg,by omega,bh,bf⟩ a (ha.kp [0,3]))
  refine qa4 15 _ (by kernel_rfl) rfl (qE (some ⟨bx,1,none⟩) (p.utf.n:Int).toNat 3 p.utf.pend (some 22) (by kernel_rfl) (qlk A) (qgk hp.u) ?_);refine qA (zr aO) eZ<|yH 7 (yB [.int .u64 p.state,.int .u64 p.within] 110 2 fun cU bi cV cW S T=>?_);have a5:=zv (b:=bi) O;have bj:=O.ch T iZ;have bk:=ag.step T iZ;have am:=A.ch T id;refine qA T eZ<|yH 8 (yC (qcF 2 [p.state,p.within] bj (Rd.all S) (bC (bC bN)) S.lt a5) ?_);rintro _ cX ⟨cY,cZ,d0,rfl,bl,d1,E⟩;refine⟨_,rfl,?_⟩;have an:=E.apart am.lt d;have bm:=E.apart S.lt a5;have bn:=bk.trans E;have ao:=am.ch E.ch (fun h=>d _ h rfl);have bo:=S.ch E.ch (fun h=>a5 _ h rfl);refine qA E.ch iZ<|yK 16 (yC (qaQ bl (qf p.utf.pend) (by omega)) ?_);rintro _ d2 ⟨bp,bq,br,rfl,bs,d3,U⟩;refine⟨_,rfl,?_⟩;have bt:=U.apart ao.lt an;have d4:=U.apart bo.lt bm;have bu:=bn.trans U;have bv:=ao.ch U.ch (fun h=>an _ h rfl);refine q8<|yd [17] [] .z<|yDe (fun a ha=>a2 (bp,bq,br) _ ⟨bs,bu,by omega,bv,bt⟩ a (ha.kp [0,3]))
 obtain⟨v,J,N⟩:=gs;obtain⟨bw,bz,d5,bA,F⟩:=aN;refine qe1 (σ:=Option Nat×Nat×Nat) (fun⟨r,s,G⟩=>[(0,.slice (r.map at0) s G),(3,pX bx)]) (fun⟨r,s,G⟩ u=>Own u tU8 1 r s G (u8s ((((xs++qag [p.state,p.within])++qbt (qf p.utf.pend))++qbt p.marks)++qag [(pn:Int)]))/\App w u o r/\s<=n+5000/\Blk u bx (PS.vals p (.slice pa pn pc)) 94/\ ∀b,r=some b-> ¬b=bx) (fun d6 ap=>?_) (fun gs u120 bB=>?_)
 ·refine qaI (fun b=>v=some b) [9] (by kernel_rfl) (fun d7 d8 a6=>?_);have a7:=bw.ch a6 iZ;have aq:=bz.step a6 iZ;have L:=bA.ch a6 id;refine ydC [0,1,2,4,5,6,7] [7] (fun u hu=>(.l (qg hu (L.c 5) (fun h=>F _ h rfl)) (.l (qg hu (L.c 6) (fun h=>F _ h rfl)) (.p (q:=InR .u64 (pn:Int)) (qao (by omega) (by omega)) .z))))<|qas 3 8 (by kernel_rfl) (by decide) ?_ ?_
  ·refine qa4 3 _ (by kernel_rfl) rfl (yC (qaQ a7 p.marks (by omega)) ?_);rintro _ d9 ⟨da,db,dc,rfl,ar,dd,V⟩;refine⟨_,rfl,?_⟩;have au:=V.apart L.lt F;have bD:=aq.trans V;have bE:=L.ch V.ch (fun h=>F _ h rfl);refine qA V.ch iZ<|yH 8 (yB [.int .u64 (pn:Int)] 110 1 fun de bF df dg a8 W=>?_);have av:=zv (b:=bF) ar;have aw:=bE.ch W id;have bG:=ar.ch W iZ;have bH:=bD.step W iZ;refine qA W eZ<|yK 9 (yC (qcF 1 [(pn:Int)] bG (Rd.all a8) (bC bN) a8.lt av) ?_);rintro _ dh ⟨bI,bJ,bK,rfl,bL,di,X⟩;refine⟨_,rfl,?_⟩;have bM:=X.apart aw.lt au;have dj:=X.apart a8.lt av;have bO:=bH.trans X;have bP:=aw.ch X.ch (fun h=>au _ h rfl);refine q8<|yd [10] [] .z<|yDe (fun a ha=>ap (bI,bJ,bK) _ ⟨bL,bO,by omega,bP,bM⟩ a (ha.kp [0,3]))
  refine qa4 8 _ (by kernel_rfl) rfl (yB [.int .u64 (pn:Int)] 110 1 fun dk bQ dl dm ax Y=>?_);have ay:=zv (b:=bQ) a7;have bR:=a7.ch Y iZ;have bS:=aq.step Y iZ;have az:=L.ch Y id;refine qA Y eZ<|yH 3 (yC (qaQ bR p.marks (by omega)) ?_);rintro _ dn ⟨dp,dq,dr,rfl,bT,ds,H⟩;refine⟨_,rfl,?_⟩;have aA:=H.apart az.lt F;have aB:=H.apart ax.lt ay;have bU:=bS.trans H;have aC:=az.ch H.ch (fun h=>F _ h rfl);have a9:=ax.ch H.ch (fun h=>ay _ h rfl);refine qA H.ch iZ<|yK 9 (yC (qcF 1 [(pn:Int)] bT (Rd.all a9) (bC bN) a9.lt aB) ?_);rintro _ dt ⟨bV,bW,bX,rfl,bY,du,Z⟩;refine⟨_,rfl,?_⟩;have bZ:=Z.apart aC.lt aA;have dv:=Z.apart a9.lt aB;have c0:=bU.trans Z;have c2:=aC.ch Z.ch (fun h=>aA _ h rfl);refine q8<|yd [10] [] .z<|yDe (fun a ha=>ap (bV,bW,bX) _ ⟨bY,c0,by omega,c2,bZ⟩ a (ha.kp [0,3]))
 obtain⟨r,s,G⟩:=gs;obtain⟨c3,c4,dw,aD,c5⟩:=bB;refine ys<|ysr<|yp 4 [] (.l (aD.c 6) .z)<|ye<|qa<|qV [0,3,35,36,37] (f':=[(0,.slice (r.map at0) s G),(3,pX bx),(35,.slice pa pn pc),(36,iX (pn:Int)),(37,iX 0)])<|qw (σ:=Nat×Option Nat×Nat×Nat) (fun⟨k,y,I,M⟩=>[(0,.slice (y.map at0) I M),(3,pX bx),(35,.slice pa pn pc),(36,iX (pn:Int)),(37,iX (k:Int))]) (fun⟨k,y,I,M⟩ u=>k<=pn/\Own u tU8 1 y I M (u8s (((((xs++qag [p.state,p.within])++qbt (qf p.utf.pend))++qbt p.marks)++qag [(pn:Int)])++(p.params.take k).flatMap (fun x=>qv x.toNat)))/\App w u o y/\I<=s+10*k/\Blk u bx (PS.vals p (.slice pa pn pc)) 94/\ ∀b,y=some b-> ¬b=bx) (fun⟨k,y,I,M⟩=>pn-k) (0,r,s,G) rfl ?_ ?_
 ·exact⟨ir _,by rw[List.take_zero];exact(by rw[jy,iH];exact c3),c4,iE _,aD,c5⟩
 intro q dx c6 dy c9;obtain⟨k,y,I,M⟩:=q;obtain⟨hk,a0,aa,dz,ab,ac⟩:=c6;refine yx 1<|ys<|yc (rL (k:Int) (pn:Int)) (fun ca=>?_) fun ca=>?_
 ·obtain⟨pb,po,rfl⟩:=hqz.resolve_left (by omega);have dA:=hp.b _ (qd6 (l:=p.params) (k:=k) (by omega));refine yk<|ys<|qa<|ysr<|yp 3 [] (.i (k:Int) (pn) (.l (o:=(po+((k:Int)).toNat*1)) (qgY (Ch.rd aa.ch hq (fun h=>hpne _ h _ _ rfl rfl)) (by omega)) .z))<|ye<|q7<|yp 3 [2] (.p (q:=InR .u64 (p.params.getD k 0)) (qao (by omega) (by omega)) .z)<|yo (yB [.int .u64 (p.params.getD k 0)] 110 1 fun dB cb dC dD ad ae=>?_);have aE:=zv (b:=cb) a0;have cc:=a0.ch ae iZ;have cd:=aa.step ae iZ;have aF:=ab.ch ae id;refine yo (yC (qcF 1 [(p.params.getD k 0)] cc (Rd.all ad) (bC bN) ad.lt aE) ?_);rintro _ ce ⟨aG,aH,aI,rfl,cf,dE,a1⟩;refine⟨_,rfl,?_⟩;have cg:=a1.apart aF.lt ac;have dF:=a1.apart ad.lt aE;have ci:=cd.trans a1;have cj:=aF.ch a1.ch (fun h=>ac _ h rfl);refine yq 6<|yE (nB (nS ?_));refine q7<|yp 2 [] (.q6 ((k:Int)+1) .z) ?_;have ck:Own ce tU8 1 aG aH aI (u8s (((((xs++qag [p.state,p.within])++qbt (qf p.utf.pend))++qbt p.marks)++qag [(pn:Int)])++(p.params.take (k+1)).flatMap (fun x=>qv x.toNat))):=by
   have h:=cf;rw[qpK (by omega)];simp only[qbJ,qcm,jY,jj,jy,ie,iH]at h⊢;exact h
  refine yE (fun a ha=>c9 (k+1,aG,aH,aI) _ ⟨by omega,ck,ci,by omega,cj,cg⟩ (by show pn-(k+1)<pn-k;omega) a (ha.kp [0,3,35,36,37]))
 have cl:k=p.params.length:=by omega
 rw[cl,jc]at a0;refine qm (eS (qd (qb (nS ?_))));refine ysr<|yp 3 [] (.l (ab.c 7) .z)<|yo (yC (qaQ a0 p.text (by omega)) ?_);rintro _ dG ⟨cm,cn,co,rfl,cp,dH,aJ⟩;refine⟨_,rfl,?_⟩;have dI:=aJ.apart ab.lt ac;have cq:=aa.trans aJ;refine yz 5<|q9 (yR1 (.slice (cm.map at0) cn co) ?_);exact⟨_,_,_,rfl,by have h:=cp;unfold qck;simp only[qbJ,qcm,ie,iH,il]at h⊢;rw[hql];exact h,by omega,cq⟩
structure EncOk (T:TS):Prop where
  w:0<=T.grid.w/\T.grid.w<=1000
  h:0<=T.grid.h/\T.grid.h<=1000
  t:(0<=T.top/\T.top<=1000)/\0<=T.bot/\T.bot<=1000
  c:CurB T.cursor
  s:CurB T.saved
  a:CurB T.away
  g:T.grid.lines.length<=60/\ ∀l∈T.grid.lines,l.length<=60/\ ∀c∈l,cOk c
  o:T.other.lines.length<=60/\ ∀l∈T.other.lines,l.length<=60/\ ∀c∈l,cOk c
  k:T.back.length<=60/\ ∀l∈T.back,l.length<=60/\ ∀c∈l,cOk c
  ti:T.title.size<=1000
  r:T.reply.size<=1000
  p:ParB T.parser
theorem CurOk.b {W H:Int}{c:Cur}(h:CurOk W H c)(hW:W<=60)(hH:H<=60):CurB c:=⟨⟨h.x.1,by have:=h.x.2;omega⟩,⟨h.y.1,by have:=h.y.2;omega⟩,h.s⟩
theorem DecOk.enc {T:TS}(h:DecOk T):EncOk T:=by
 have hw:=h.w;have hh:=h.h;have ht:=h.t;refine⟨by omega,by omega,by omega,h.c.b hw.2 hh.2,h.s.b hw.2 hh.2,h.a.b hw.2 hh.2,⟨by rw[h.g.1];omega,fun l hl=>⟨by have:=(h.g.2 l hl).1;omega,(h.g.2 l hl).2.2⟩⟩,⟨by rw[h.g2.1];omega,fun l hl=>⟨by have:=(h.g2.2 l hl).1;omega,(h.g2.2 l hl).2.2⟩⟩,⟨by have:=h.k.1;omega,fun l hl=>⟨(h.k.2 l hl).2.1,(h.k.2 l hl).2.2.2⟩⟩,by have:=h.ti;omega,by have:=h.r;omega,?_⟩;have hp:=h.p;exact⟨⟨hp.st.1,by have:=hp.st.2;omega⟩,⟨hp.wi.1,by have:=hp.wi.2;omega⟩,hp.u.n,hp.u.pend,by have:=hp.m;omega,by have:=hp.n;omega,hp.b,by have:=hp.t;omega⟩
theorem App.new {w w':World}{o':Option Nat}(h:App w w' none o'):∀b,o'=some b->w.heap.size<=b:=fun b e=>by
  rcases h.ne with rfl|⟨g,rfl,hg⟩
  · cases e
  · cases e;exact hg
def qmy (f:Nat->Bool):List Bool:=(List.range 60).map f
theorem tabL_v (f:Nat->Bool):(qmy f).map Value.bool=qhl f:=by
 unfold qmy qhl;rw[jB];rfl
theorem tabL_f (f:Nat->Bool):qac (qmy f)=qaj f 60:=by
 have hl:(qmy f).length=60:=by simp[qmy]
 unfold qac;rw[hl];refine qcz fun i hi=>?_;unfold lb qmy;simp[List.getD,hi]
theorem tabs_rd {w:World}{t g o:Nat}{bk ps:Value}{T:TS}(h:Blk w t (T.vals g o bk ps) qar):Rd w (some ⟨t,28,none⟩) ((qmy T.tabs).map Value.bool):=by
 rw[tabL_v];refine⟨(fun e=>by cases e),fun ad e j u hj=>?_⟩;cases e;have hl:=(io.1 hj).1;have a:j<60:=by simpa[qhl]using hl
 have hu:u= .bool (T.tabs j):=by
  unfold qhl at hj;rw[iM,List.getElem?_range a]at hj;exact(zi hj).symm
 have:=qlP h (j:Int) (by omega) (by omega);rw[il,iN]at this;rw[qaZ,hu];exact this
theorem qcX {rows:List Row}{k:Nat}{q:Row}(h:rows[k]? =some q):(rows.map Row.l).take (k+1)=(rows.map Row.l).take k++[q.l]:=by
 have hk:k<(rows.map Row.l).length:=by rw[hZ];exact(io.1 h).1
 rw[j4 hk];congr 2;have:(rows.map Row.l)[k]? =some q.l:=by rw[iM,h];rfl
 exact(io.1 this).2
theorem qh8 {rows:List Row}{k:Nat}(h:k<rows.length):∃q,rows[k]? =some q/\q∈rows:=⟨_,ig h,jG h⟩
theorem qi6 {w:World}{t:Nat}{T:TS}{F:Nat->Prop}(hA0:TermAt w t T F)(he:EncOk T):CP 27 [pX t].toArray w fun e w'=>
 ∃o n cap,e= .returned (.slice (o.map at0) n cap)/\Own w' tU8 1 o n cap (u8s (qa0 T))/\n<=1000000/\(∀b,o=some b->w.heap.size<=b)/\Ch (fun _=>False) w w':=by
 obtain⟨g,q,ba,bn,bc,pa,pn,pc,F1,F2,FB,FP,hI⟩:=hA0;obtain⟨r1,bg,v,D⟩:=hI.g1;obtain⟨r2,bi,A,E⟩:=hI.g2;obtain⟨ag,G,a4⟩:=hI.bk;have eM:bn<=60:=by have h1:=G.len;have W:=he.k.1;rw[<-a4,hZ]at W;omega
 have eN:=he.w;have eO:=he.h;have eP:=he.t;have eQ:=he.ti;have eR:=he.r;have eT:=qh6 [T.wrap,T.origin,T.insert,T.hidden,T.alt,T.draw0,T.draw1,T.shift] (by simp);have eU:=qh6 (qmy T.tabs) (by simp[qmy]);refine yA Tryz.func27 rfl<|yx 1<|ys<|yD [26,27] fun eV eW bj=>?_;have bl:=(show Own w tU8 1 none 0 0 (u8s [])from Own.nil w tU8 1).ch bj iZ;have M:=(App.refl w none).step bj iZ;refine yd (uL 0 26) [7,15,20,25] (.l (qg (qM M.ch) (hI.blk.c 0) id) (.l (qg (qM M.ch) (D.head.c 0) id) (.p (q:=InR .u64 T.grid.w) (qao (by omega) (by omega)) (.l (qg (qM M.ch) (hI.blk.c 0) id) (.l (qg (qM M.ch) (D.head.c 1) id) (.p (q:=InR .u64 T.grid.h) (qao (by omega) (by omega)) (.l (qg (qM M.ch) (hI.blk.c 26) id) (.p (q:=InR .u64 T.top) (qao (by omega) (by omega)) (.l (qg (qM M.ch) (hI.blk.c 27) id) (.p (q:=InR .u64 T.bot) (qao (by omega) (by omega)) .z))))))))))<|yK 26 (yB [.int .u64 T.grid.w,.int .u64 T.grid.h,.int .u64 T.top,.int .u64 T.bot] 110 4 fun eX aI cA eY ah bm=>?_);have aJ:=zv (b:=aI) bl;have eZ:w.heap.size<=aI:=by rw[cA];exact M.ch.size
 have cB:=bl.ch bm iZ;have cC:=M.step bm iZ;refine q8<|yK 27 (yC (qcF 4 [T.grid.w,T.grid.h,T.top,T.bot] cB (Rd.all ah) (bC (bC (bC (bC bN)))) ah.lt aJ) ?_);rintro _ fa ⟨fb,fc,fd,rfl,cD,fe,aK⟩;refine⟨_,rfl,?_⟩;have bp:=aK.apart ah.lt aJ;have cE:=cC.trans aK;have cF:=ah.ch aK.ch (fun h=>aJ _ h rfl);refine q8<|yd [28] [] .z<|yDe (nS ?_);refine ys<|yD [35,36,41,42,43] fun ff fg aL=>?_;have cG:=cF.ch aL id;have bq:=cD.ch aL iZ;have H:=cE.step aL iZ;refine yd [0,1,2,3,4,5,6,7,8,9,10,11,12,13,14,15,16,17,18,19,20,21,22,23,24,25,26,27,28,29,30,31,32,33,34,37,38,39,40] [] (.l (qg (qM H.ch) (hI.blk.c 88) id) (.l (qg (qM H.ch) (hI.blk.c 89) id) (.l (qg (qM H.ch) (hI.blk.c 90) id) (.l (qg (qM H.ch) (hI.blk.c 91) id) (.l (qg (qM H.ch) (hI.blk.c 95) id) (.i 0 (2) (.l (qg (qM H.ch) (hI.blk.c 92) id) (.i 1 (2) (.l (qg (qM H.ch) (hI.blk.c 93) id) (.l (qg (qM H.ch) (hI.blk.c 94) id) .z))))))))))<|yK 35 (yB [.bool T.wrap,.bool T.origin,.bool T.insert,.bool T.hidden,.bool T.alt,.bool T.draw0,.bool T.draw1,.bool T.shift] 4 8 fun fh ai cH fi br aM=>?_);have bs:=zv (b:=ai) bq;have fj:w.heap.size<=ai:=by rw[cH];exact H.ch.size
 have cI:=cG.ch aM id;have cJ:=bq.ch aM iZ;have cK:=H.step aM iZ;refine q8<|yK 36 (yQ (qh7 ai 0 8 [T.wrap,T.origin,T.insert,T.hidden,T.alt,T.draw0,T.draw1,T.shift] _ (Rd.all (cs:=[T.wrap,T.origin,T.insert,T.hidden,T.alt,T.draw0,T.draw1,T.shift].map Value.bool) br) rfl (by decide)) fun fk aj=>?_);have cL:=cI.ch aj id;have cM:=cJ.ch aj iZ;have bt:=cK.step aj iZ;have cN:=br.ch aj id;refine q8<|yK 41 (yQ (qh7 t 28 60 (qmy T.tabs) _ (Ch.rd (qM bt.ch) (tabs_rd hI.blk) id) (by simp[qmy]) (by decide)) fun fl ak=>?_);have cO:=cL.ch ak id;have bu:=cM.ch ak iZ;have bv:=bt.step ak iZ;have cP:=cN.ch ak id;refine q8<|yK 42 (yB [.int .u64 ((qac [T.wrap,T.origin,T.insert,T.hidden,T.alt,T.draw0,T.draw1,T.shift]:Nat):Int),.int .u64 ((qac (qmy T.tabs):Nat):Int)] 110 2 fun fm aN cQ fn al am=>?_);have aO:=zv (b:=aN) bu;have fo:w.heap.size<=aN:=by rw[cQ];exact bv.ch.size
 have bw:=cO.ch am id;have cR:=bu.ch am iZ;have cS:=bv.step am iZ;have bx:=cP.ch am id;refine q8<|yK 43 (yC (qcF 2 [((qac [T.wrap,T.origin,T.insert,T.hidden,T.alt,T.draw0,T.draw1,T.shift]:Nat):Int),((qac (qmy T.tabs):Nat):Int)] cR (Rd.all al) (bC (bC bN)) al.lt aO) ?_);rintro _ fp ⟨fq,fr,fs,rfl,cT,ft,Q⟩;refine⟨_,rfl,?_⟩;have cU:=Q.apart bw.lt bp;have cV:=Q.apart bx.lt bs;have cW:=Q.apart al.lt aO;have cX:=cS.trans Q;have cY:=bw.ch Q.ch (fun h=>bp _ h rfl);have cZ:=bx.ch Q.ch (fun h=>bs _ h rfl);have d0:=al.ch Q.ch (fun h=>aO _ h rfl);refine q8<|yd [44] [] .z<|yDe (nS ?_);refine ys<|ys<|yD [12] fun fu fv a5=>?_;have d1:=cY.ch a5 id;have d2:=cZ.ch a5 id;have d3:=d0.ch a5 id;have bA:=cT.ch a5 iZ;have a6:=cX.step a5 iZ;refine yd [0,1,2,3,4,5,6,7,8,9,10,11,14] [] (.a (qap (qM a6.ch) (hI.blk.cs 2 8) id) (.a (qap (qM a6.ch) (hI.blk.cs 10 8) id) (.a (qap (qM a6.ch) (hI.blk.cs 18 8) id) .z)))<|yK 12 (yB [iX T.cursor.x,iX T.cursor.y,.bool T.cursor.late,.bool T.cursor.sty.bold,.bool T.cursor.sty.under,.bool T.cursor.sty.turned,iX T.cursor.sty.fore,iX T.cursor.sty.back,iX T.saved.x,iX T.saved.y,.bool T.saved.late,.bool T.saved.sty.bold,.bool T.saved.sty.under,.bool T.saved.sty.turned,iX T.saved.sty.fore,iX T.saved.sty.back,iX T.away.x,iX T.away.y,.bool T.away.late,.bool T.away.sty.bold,.bool T.away.sty.under,.bool T.away.sty.turned,iX T.away.sty.fore,iX T.away.sty.back] 86 3 fun fw a7 d4 fx aP a8=>?_)
 have bB:=zv (b:=a7) bA;have fy:w.heap.size<=a7:=by rw[d4];exact a6.ch.size
 have bD:=d1.ch a8 id;have bE:=d2.ch a8 id;have bF:=d3.ch a8 id;have bG:=bA.ch a8 iZ;have bH:=a6.step a8 iZ;refine q8<|yd [13] [] .z<|yDe (nS ?_);refine qa<|yU 4 (yU1 ?_);refine yx 1<|ys<|yct<|yk<|ys<|qa<|ysr<|yp 2 [] (.i 0 (3) (.a (aP.cs 0 8) .z))<|yo (yN [iX 0,iX 0,xF,xF,xF,xF,iX 0,iX 0] 86 fun fz N d5 fA d6 X=>?_);have bI:=zv (b:=N) bG;have d7:w.heap.size<=N:=by rw[d5];exact bH.ch.size
 have d8:=bD.ch X id;have d9:=bE.ch X id;have da:=bF.ch X id;have db:=bG.ch X iZ;have dc:=bH.step X iZ;have dd:=aP.ch X id;refine yo (yT [iX T.cursor.x,iX T.cursor.y,.bool T.cursor.late,.bool T.cursor.sty.bold,.bool T.cursor.sty.under,.bool T.cursor.sty.turned,iX T.cursor.sty.fore,iX T.cursor.sty.back] d6 fun fB bJ Y=>?_);have de:=d8.ch Y (fun(h:aI=N)=>by have:=bD.lt;omega);have df:=d9.ch Y (fun(h:ai=N)=>by have:=bE.lt;omega);have dg:=da.ch Y (fun(h:aN=N)=>by have:=bF.lt;omega);have dh:=db.ch Y (fun b e (h:b=N)=>bI b e h);have di:=dc.step Y (fun i hi (h:i=N)=>by have:=d7;omega);have bK:=dd.ch Y (fun(h:a7=N)=>by have:=aP.lt;omega);refine ye<|q7<|yp 2 [] (.a (bJ.cs 0 8) .z)<|yo (yC (qfG dh T.cursor he.c (by omega)) ?_);rintro _ fC ⟨fD,fE,fF,rfl,bL,fG,R⟩;refine⟨_,rfl,?_⟩;have fH:=R.apart de.lt cU;have fI:=R.apart df.lt cV;have fJ:=R.apart dg.lt cW;have bM:=R.apart bK.lt bB;have fK:=R.apart bJ.lt bI;have bO:=di.trans R;have aQ:=bK.ch R.ch (fun h=>bB _ h rfl);refine yq 4<|yE (nB (nS ?_));refine q7<|yp 2 [] (.q6 1 .z)<|yE (nU (yU1 ?_));refine yx 1<|ys<|yct<|yk<|ys<|qa<|ysr<|yp 2 [] (.i 1 (3) (.a (aQ.cs 8 8) .z))<|yo (yN [iX 0,iX 0,xF,xF,xF,xF,iX 0,iX 0] 86 fun fL a9 dj fM dk aR=>?_);have bP:=zv (b:=a9) bL;have dl:w.heap.size<=a9:=by rw[dj];exact bO.ch.size
 have dm:=aQ.ch aR id;have dn:=bL.ch aR iZ;have dp:=bO.step aR iZ;refine yo (yT [iX T.saved.x,iX T.saved.y,.bool T.saved.late,.bool T.saved.sty.bold,.bool T.saved.sty.under,.bool T.saved.sty.turned,iX T.saved.sty.fore,iX T.saved.sty.back] dk fun fN bQ aS=>?_);have bR:=dm.ch aS (fun(h:a7=a9)=>by have:=aQ.lt;omega);have dq:=dn.ch aS (fun b e (h:b=a9)=>bP b e h);have dr:=dp.step aS (fun i hi (h:i=a9)=>by have:=dl;omega);refine ye<|q7<|yp 2 [] (.a (bQ.cs 0 8) .z)<|yo (yC (qfG dq T.saved he.s (by omega)) ?_);rintro _ fO ⟨fP,fQ,fR,rfl,bS,fS,an⟩;refine⟨_,rfl,?_⟩;have ds:=an.apart bR.lt bM;have fT:=an.apart bQ.lt bP;have bT:=dr.trans an;have aT:=bR.ch an.ch (fun h=>bM _ h rfl);refine yq 4<|yE (nB (nS ?_));refine q7<|yp 2 [] (.q6 2 .z)<|yE (nU (yU1 ?_));refine yx 1<|ys<|yct<|yk<|ys<|qa<|ysr<|yp 2 [] (.i 2 (3) (.a (aT.cs 16 8) .z))<|yo (yN [iX 0,iX 0,xF,xF,xF,xF,iX 0,iX 0] 86 fun fU aa dt fV du aU=>?_);have bU:=zv (b:=aa) bS;have dv:w.heap.size<=aa:=by rw[dt];exact bT.ch.size
 have dw:=aT.ch aU id;have dx:=bS.ch aU iZ;have dy:=bT.step aU iZ;refine yo (yT [iX T.away.x,iX T.away.y,.bool T.away.late,.bool T.away.sty.bold,.bool T.away.sty.under,.bool T.away.sty.turned,iX T.away.sty.fore,iX T.away.sty.back] du fun fW bV aV=>?_);have dz:=dw.ch aV (fun(h:a7=aa)=>by have:=aT.lt;omega);have dA:=dx.ch aV (fun b e (h:b=aa)=>bU b e h);have dB:=dy.step aV (fun i hi (h:i=aa)=>by have:=dv;omega);refine ye<|q7<|yp 2 [] (.a (bV.cs 0 8) .z)<|yo (yC (qfG dA T.away he.a (by omega)) ?_);rintro _ fX ⟨ao,ab,ap,rfl,dC,fY,aW⟩;refine⟨_,rfl,?_⟩;have fZ:=aW.apart dz.lt ds;have g0:=aW.apart bV.lt bU;have dD:=dB.trans aW;refine yq 4<|yE (nB (nS ?_));refine q7<|yp 2 [] (.q6 3 .z)<|yE (nU (yU1 ?_));refine yx 1<|ys<|ycf<|qm (eS (qd (qb (nS ?_))));refine ys<|ys<|yD [8] fun g3 g4 bW=>?_;have bX:=dC.ch bW iZ;have aq:=dD.step bW iZ;refine yd [0,1,2,3,4,5,6,7,10] [] (.l (qg (qM aq.ch) (hI.blk.c 0) id) (.l (qg (qM aq.ch) (hI.blk.c 1) id) .z))<|yK 8 (yB [pX g,pX q] 82 2 fun dE B dF g5 bY bZ=>?_);have dG:=zv (b:=B) bX;have g6:w.heap.size<=B:=by rw[dF];exact aq.ch.size
 have dH:=bX.ch bZ iZ;have c0:=aq.step bZ iZ;refine q8<|yd [9] [] .z<|yDe (nS ?_);refine qa<|yU 3 (yU1 ?_);refine yx 1<|ys<|yct<|yk<|ys<|qa<|ysr<|yf (f':=[(0,pX t),(3,.slice (ao.map at0) ab ap),(7,pX g),(114,.slice (some ⟨B,0,none⟩) 2 2),(115,iX 2),(116,iX 0)]) 3 [] [0,3,7,114,115,116] (.i 0 (2) (.l (bY.c 0) .z))<|ye<|ysr<|yp 6 [] (.l (qg (qM c0.ch) (D.head.c 2) id) .z)<|ye<|qa ?_;obtain⟨ar,c1⟩:∃l:List Int,l=(((((([]:List Int)++qag [T.grid.w,T.grid.h,T.top,T.bot])++qag [((qac [T.wrap,T.origin,T.insert,T.hidden,T.alt,T.draw0,T.draw1,T.shift]:Nat):Int),((qac (qmy T.tabs):Nat):Int)])++qeh T.cursor)++qeh T.saved)++qeh T.away):=⟨_,rfl⟩
 have dI:Own dE tU8 1 ao ab ap (u8s ar):=by rw[c1];exact dH
 have dJ:=he.g.1;rw[<-D.lines,hZ]at dJ;refine qV [0,3,114,115,116,123,124,125] (f':=[(0,pX t),(3,.slice (ao.map at0) ab ap),(114,.slice (some ⟨B,0,none⟩) 2 2),(115,iX 2),(116,iX 0),(123,.slice (some ⟨r1,0,none⟩) v.length bg),(124,iX (v.length:Int)),(125,iX 0)])<|qw (σ:=Nat×Option Nat×Nat×Nat) (fun⟨d,I,J,O⟩=>[(0,pX t),(3,.slice (I.map at0) J O),(114,.slice (some ⟨B,0,none⟩) 2 2),(115,iX 2),(116,iX 0),(123,.slice (some ⟨r1,0,none⟩) v.length bg),(124,iX (v.length:Int)),(125,iX (d:Int))]) (fun⟨d,I,J,O⟩ u=>d<=v.length/\Own u tU8 1 I J O (u8s (ar++((v.map Row.l).take d).flatMap qa7))/\App w u none I/\J<=ab+1800*d/\Blk u B [pX g,pX q] 82/\ ∀b,I=some b-> ¬b=B) (fun⟨d,I,J,O⟩=>v.length-d) (0,ao,ab,ap) rfl ?_ ?_
 ·exact⟨ir _,(by rw[List.take_zero,jy,iH];exact dI),c0,iE _,bY,dG⟩
 intro p dK dL g7 dM;obtain⟨d,I,J,O⟩:=p;obtain⟨g8,aX,S,g9,au,aY⟩:=dL;refine yx 1<|ys<|yc (rL (d:Int) (v.length:Int)) (fun dN=>?_) fun dN=>?_
 ·obtain⟨K,c2,Z⟩:=qh8 (rows:=v) (k:=d) (by omega);obtain⟨ga,dO⟩:=he.g.2 K.l (by rw[<-D.lines];exact jh Z);have gb:=(D.line K Z).2;refine yk<|ys<|qa<|ysr<|yp 3 [] (.i (d:Int) (v.length) (.l (qgV (Ch.rd (qM S.ch) D.body.rd id) c2) .z))<|ye<|q7<|yq 2<|yo (yC (qej aX K.b K.n K.cap K.l (Ch.rd (qM S.ch) (D.line K Z).1.rd id) (ic (D.line K Z).1.lt S.ch.size) (S.apart (D.line K Z).1.lt (fun b e=>by cases e)) (D.line K Z).2 dO (by omega)) ?_);rintro _ dP ⟨c3,c4,c5,rfl,dQ,gc,aZ⟩;refine⟨_,rfl,?_⟩;have dR:=aZ.apart au.lt aY;have dS:=S.trans aZ;have dT:=au.ch aZ.ch (fun h=>aY _ h rfl);refine yq 4<|yE (nB (nS ?_));refine q7<|yp 2 [] (.q6 ((d:Int)+1) .z) ?_;have dU:Own dP tU8 1 c3 c4 c5 (u8s (ar++((v.map Row.l).take (d+1)).flatMap qa7)):=by
   have h:=dQ;rw[qcX c2];simp only[qbJ,qcm,jY,jj,jy,ie,iH,il]at h⊢;exact h
  refine yE (fun a ha=>dM (d+1,c3,c4,c5) _ ⟨by omega,dU,dS,by omega,dT,dR⟩ (by show v.length-(d+1)<v.length-d;omega) a (ha.kp [0,3,114,115,116,123,124,125]))
 have dV:d=(v.map Row.l).length:=by rw[hZ];omega
 rw[dV,jc,D.lines]at aX;refine qm (eS (qd (qb (nB (nS ?_)))));refine q7<|yp 2 [] (.q6 1 .z)<|yE (nU (yU1 ?_));refine yx 1<|ys<|yct<|yk<|ys<|qa<|ysr<|yp 3 [] (.i 1 (2) (.l (au.c 1) .z))<|ye<|ysr<|yp 6 [] (.l (qg (qM S.ch) (E.head.c 2) id) .z)<|ye<|qa ?_;obtain⟨av,c6⟩:∃l:List Int,l=(ar++(T.grid.lines).flatMap qa7):=⟨_,rfl⟩
 have dW:Own dK tU8 1 I J O (u8s av):=by rw[c6];exact aX
 have dX:=he.o.1;rw[<-E.lines,hZ]at dX;refine qV [0,3,114,115,116,123,124,125] (f':=[(0,pX t),(3,.slice (I.map at0) J O),(114,.slice (some ⟨B,0,none⟩) 2 2),(115,iX 2),(116,iX 1),(123,.slice (some ⟨r2,0,none⟩) A.length bi),(124,iX (A.length:Int)),(125,iX 0)])<|qw (σ:=Nat×Option Nat×Nat×Nat) (fun⟨j,U,a0,ac⟩=>[(0,pX t),(3,.slice (U.map at0) a0 ac),(114,.slice (some ⟨B,0,none⟩) 2 2),(115,iX 2),(116,iX 1),(123,.slice (some ⟨r2,0,none⟩) A.length bi),(124,iX (A.length:Int)),(125,iX (j:Int))]) (fun⟨j,U,a0,ac⟩ u=>j<=A.length/\Own u tU8 1 U a0 ac (u8s (av++((A.map Row.l).take j).flatMap qa7))/\App w u none U/\a0<=J+1800*j/\Blk u B [pX g,pX q] 82/\ ∀b,U=some b-> ¬b=B) (fun⟨j,U,a0,ac⟩=>A.length-j) (0,I,J,O) rfl ?_ ?_
 ·exact⟨ir _,(by rw[List.take_zero,jy,iH];exact dW),S,iE _,au,aY⟩
 intro p gd dY gf dZ;obtain⟨j,U,a0,ac⟩:=p;obtain⟨gg,aw,P,gh,b0,ax⟩:=dY;refine yx 1<|ys<|yc (rL (j:Int) (A.length:Int)) (fun e0=>?_) fun e0=>?_
 ·obtain⟨L,c7,a1⟩:=qh8 (rows:=A) (k:=j) (by omega);obtain⟨gi,e1⟩:=he.o.2 L.l (by rw[<-E.lines];exact jh a1);have gj:=(E.line L a1).2;refine yk<|ys<|qa<|ysr<|yp 3 [] (.i (j:Int) (A.length) (.l (qgV (Ch.rd (qM P.ch) E.body.rd id) c7) .z))<|ye<|q7<|yq 2<|yo (yC (qej aw L.b L.n L.cap L.l (Ch.rd (qM P.ch) (E.line L a1).1.rd id) (ic (E.line L a1).1.lt P.ch.size) (P.apart (E.line L a1).1.lt (fun b e=>by cases e)) (E.line L a1).2 e1 (by omega)) ?_);rintro _ e2 ⟨c8,c9,ca,rfl,e3,gk,b1⟩;refine⟨_,rfl,?_⟩;have e4:=b1.apart b0.lt ax;have e5:=P.trans b1;have e6:=b0.ch b1.ch (fun h=>ax _ h rfl);refine yq 4<|yE (nB (nS ?_));refine q7<|yp 2 [] (.q6 ((j:Int)+1) .z) ?_;have e7:Own e2 tU8 1 c8 c9 ca (u8s (av++((A.map Row.l).take (j+1)).flatMap qa7)):=by
   have h:=e3;rw[qcX c7];simp only[qbJ,qcm,jY,jj,jy,ie,iH,il]at h⊢;exact h
  refine yE (fun a ha=>dZ (j+1,c8,c9,ca) _ ⟨by omega,e7,e5,by omega,e6,e4⟩ (by show A.length-(j+1)<A.length-j;omega) a (ha.kp [0,3,114,115,116,123,124,125]))
 have e8:j=(A.map Row.l).length:=by rw[hZ];omega
 rw[e8,jc,E.lines]at aw;refine qm (eS (qd (qb (nB (nS ?_)))));refine q7<|yp 2 [] (.q6 2 .z)<|yE (nU (yU1 ?_));refine yx 1<|ys<|ycf<|qm (eS (qd (qb (nS ?_))));refine ysr<|yp 7 [6] (.l (qg (qM P.ch) (hI.blk.c 97) id) (.p (q:=InR .u64 (bn:Int)) (qao (by omega) (by omega)) .z))<|yo (yB [.int .u64 (bn:Int)] 110 1 fun gl cb e9 gm b2 b3=>?_);have cc:=zv (b:=cb) aw;have gn:w.heap.size<=cb:=by rw[e9];exact P.ch.size
 have ea:=aw.ch b3 iZ;have eb:=P.step b3 iZ;have cd:=b0.ch b3 id;refine yo (yC (qcF 1 [(bn:Int)] ea (Rd.all b2) (bC bN) b2.lt cc) ?_);rintro _ ec ⟨b4,ay,b5,rfl,ed,gp,az⟩;refine⟨_,rfl,?_⟩;have ee:=az.apart cd.lt ax;have gq:=az.apart b2.lt cc;have ce:=eb.trans az;have ef:=cd.ch az.ch (fun h=>ax _ h rfl);refine yz 10<|ys<|ysr<|yp 6 [] (.l (qg (qM ce.ch) (hI.blk.c 97) id) .z)<|ye<|qa ?_;obtain⟨b6,cf⟩:∃l:List Int,l=((av++(T.other.lines).flatMap qa7)++qag [(bn:Int)]):=⟨_,rfl⟩
 have eg:Own ec tU8 1 b4 ay b5 (u8s b6):=by rw[cf];exact ed
 have eh:=he.k.1;rw[<-a4,hZ]at eh;have gr:=G.len;refine qV [0,3,146,147,148] (f':=[(0,pX t),(3,.slice (b4.map at0) ay b5),(146,.slice ba bn bc),(147,iX (bn:Int)),(148,iX 0)])<|qw (σ:=Nat×Option Nat×Nat×Nat) (fun⟨m,V,a2,ad⟩=>[(0,pX t),(3,.slice (V.map at0) a2 ad),(146,.slice ba bn bc),(147,iX (bn:Int)),(148,iX (m:Int))]) (fun⟨m,V,a2,ad⟩ u=>m<=bn/\Own u tU8 1 V a2 ad (u8s (b6++((ag.map Row.l).take m).flatMap (fun l=>qv l.length++qa7 l)))/\App w u none V/\a2<=ay+1810*m/\Blk u B [pX g,pX q] 82/\ ∀b,V=some b-> ¬b=B) (fun⟨m,V,a2,ad⟩=>bn-m) (0,b4,ay,b5) rfl ?_ ?_
 ·exact⟨ir _,(by rw[List.take_zero,jy,iH];exact eg),ce,iE _,ef,ee⟩
 intro p gs ei gu ej;obtain⟨m,V,a2,ad⟩:=p;obtain⟨gv,aA,aB,gw,cg,aC⟩:=ei;refine yx 1<|ys<|yc (rL (m:Int) (bn:Int)) (fun ek=>?_) fun ek=>?_
 ·obtain⟨bb,bo,rfl⟩:=qpQ hI.bz G (by omega);obtain⟨C,ci,a3⟩:=qh8 (rows:=ag) (k:=m) (by omega);obtain⟨gx,el⟩:=he.k.2 C.l (by rw[<-a4];exact jh a3);have em:=(G.line C a3).2;refine yk<|ys<|qa<|ysr<|yp 3 [] (.i (m:Int) (bn) (.l (qgV (Ch.rd (qM aB.ch) G.rd id) ci) .z))<|ye<|q7<|yp 4 [3] (.p (q:=InR .u64 (C.n:Int)) (qao (by omega) (by omega)) .z)<|yo (yB [.int .u64 (C.n:Int)] 110 1 fun gy cj en gz aD b7=>?_);have b8:=zv (b:=cj) aA;have gA:w.heap.size<=cj:=by rw[en];exact aB.ch.size
  have ck:=cg.ch b7 id;have eo:=aA.ch b7 iZ;have ep:=aB.step b7 iZ;refine yo (yC (qcF 1 [(C.n:Int)] eo (Rd.all aD) (bC bN) aD.lt b8) ?_);rintro _ gB ⟨gC,gD,gE,rfl,er,gF,ae⟩;refine⟨_,rfl,?_⟩;have cl:=ae.apart ck.lt aC;have es:=ae.apart aD.lt b8;have aE:=ep.trans ae;have cm:=ck.ch ae.ch (fun h=>aC _ h rfl);have et:=aD.ch ae.ch (fun h=>b8 _ h rfl);refine yq 7<|yo (yC (qej er C.b C.n C.cap C.l (Ch.rd (qM aE.ch) (G.line C a3).1.rd id) (ic (G.line C a3).1.lt aE.ch.size) (aE.apart (G.line C a3).1.lt (fun b e=>by cases e)) (G.line C a3).2 el (by omega)) ?_);rintro _ eu ⟨cn,co,cp,rfl,ev,gG,aF⟩;refine⟨_,rfl,?_⟩;have ew:=aF.apart cm.lt cl;have gH:=aF.apart et.lt es;have ex:=aE.trans aF;have ey:=cm.ch aF.ch (fun h=>cl _ h rfl);refine yq 9<|yE (nB (nS ?_));refine q7<|yp 2 [] (.q6 ((m:Int)+1) .z) ?_;have ez:Own eu tU8 1 cn co cp (u8s (b6++((ag.map Row.l).take (m+1)).flatMap (fun l=>qv l.length++qa7 l))):=by
   have h:=ev;rw[qcX ci];simp only[qbJ,qcm,jY,jj,jy,ie,iH,il]at h⊢;rw[em];exact h
  refine yE (fun a ha=>ej (m+1,cn,co,cp) _ ⟨by omega,ez,ex,by omega,ey,ew⟩ (by show bn-(m+1)<bn-m;omega) a (ha.kp [0,3,146,147,148]))
 have eA:m=(ag.map Row.l).length:=by rw[hZ];omega
 rw[eA,jc,a4]at aA;refine qm (eS (qd (qb (nS ?_))));refine ys<|qaI (fun b=>w.heap.size<=b) [15] (by kernel_rfl) (fun gI gJ b9=>?_);have cq:=cg.ch b9 id;have eB:=aA.ch b9 iZ;have af:=aB.step b9 iZ;refine ydC [0,1,2,3,4,6,7,8,9,11,12,13,14] [] (fun u hu=>(.l (qg hu (qg (qM af.ch) (hI.blk.c 96) id) (fun h=>by have:=hI.blk.lt;omega)) (.l (qg hu (qg (qM af.ch) (hI.blk.c 107) id) (fun h=>by have:=hI.blk.lt;omega)) (.a (qap hu (qap (qM af.ch) (hI.blk.cs 98 9) id) (fun h=>by have:=hI.blk.lt;omega)) .z))))<|yH 5 (yC (qaQ eB T.title (by omega)) ?_);rintro _ gK ⟨gL,gM,gN,rfl,eC,gO,aG⟩;refine⟨_,rfl,?_⟩;have cr:=aG.apart cq.lt aC;have ct:=af.trans aG;have cu:=cq.ch aG.ch (fun h=>aC _ h rfl);refine qA aG.ch ((fun i _ h=>af.new i h))<|yH 10 (yC (qaQ eC T.reply (by omega)) ?_);rintro _ gP ⟨gQ,gR,gS,rfl,eD,gT,aH⟩;refine⟨_,rfl,?_⟩;have eE:=aH.apart cu.lt cr;have bd:=ct.trans aH;have eF:=cu.ch aH.ch (fun h=>cr _ h rfl);refine qA aH.ch ((fun i _ h=>ct.new i h))<|yK 15 (yC (qnL eD T.parser he.p pa pn pc (hI.ps.1.ch (qM bd.ch) iZ) hI.ps.2.1 (by rcases hI.pz with⟨po,cv⟩;cases po with|none=>exact .inl (by have h:=hI.ps.1.1 (by rw[cv];rfl);have W:=hI.ps.2.1;rw[ki]at h;rw[h]at W;exact W.symm)|some b=>exact .inr ⟨b,0,by rw[cv];rfl⟩) (fun x hx b f hb e=>by have h1:=bd.new x hx;have W:=hI.ps.2.2.2 _ hb;have h3:=hI.lt b (hI.inF.2.2.2.2 b W);omega) (by omega)) ?_)
 rintro _ gV ⟨eG,eH,eI,rfl,eJ,gW,cw⟩;refine⟨_,rfl,?_⟩;have gX:=cw.apart eF.lt eE;have cx:=bd.trans cw;refine q8<|yd [16] [] .z<|yDe (nS ?_);refine q9 (yR1 (.slice (eG.map at0) eH eI) ?_);refine⟨_,_,_,rfl,?_,by omega,cx.new,qM cx.ch⟩;have h:=eJ;subst cf c6 c1;unfold qa0;unfold qbU;rw[<-tabL_f];simp only[qbJ,qcm,ie,iH,iO,il]at h⊢;have cy:=congrArg List.length a4;rw[hZ,G.len]at cy;rw[<-cy];exact h
theorem qkq {p:Nat}{G:Gr}{F:Nat->Prop}(w:World)(hG0:GridAt w p G F):CP 99 [pX p].toArray w fun e w'=>
 ∃g F',e= .returned (pX g)/\GridAt w' g G F'/\(∀b,F' b->w.heap.size<=b)/\Ch (fun _=>False) w w':=by
 obtain⟨r,rc,rows,hG⟩:=hG0;have h7:=qoB ⟨r,rc,rows,hG⟩;have aK:=hG.len;have aL:=hG.ok.2.1;have aM:=hG.ok.1;refine yA Tryz.func99 rfl<|yx 1<|ys<|yD [9] fun aN aO a8=>?_;have D:=zu (zm w) a8 iZ;refine yd (uL 0 9) [] (.l (qg (Up.ch D) (hG.head.c 0) id) (.l (qg (Up.ch D) (hG.head.c 1) id) .z))<|yK 9 (yN [iX G.w,iX G.h,nX] 112 fun s d a9 aP M aa=>?_);have aQ:=zn a9 D;have E:=zu D aa iZ;refine q8<|yd [10] [] .z<|yDe (nS ?_);refine ys<|ysr<|yp 6 [] (.l (qg (Up.ch E) (hG.head.c 2) id) .z)<|ye<|qa<|qV [3,19,20,21] (f':=[(3,pX d),(19,.slice (some ⟨r,0,none⟩) rows.length rc),(20,iX (rows.length:Int)),(21,iX 0)])<|qw (σ:=Nat×Option Nat×Nat) (fun⟨k,o,oc⟩=>[(3,pX d),(19,.slice (some ⟨r,0,none⟩) rows.length rc),(20,iX (rows.length:Int)),(21,iX (k:Int))]) (fun⟨k,o,oc⟩ u=>k<=rows.length/\Ch (· =d) s u/\ ∃t,Blk u d [iX G.w,iX G.h,.slice (o.map at0) k oc] qgo/\NewRows s u o k oc t G.w/\t.map Row.l=(rows.map Row.l).take k) (fun⟨k,o,oc⟩=>rows.length-k) (0,none,0) rfl ?_ ?_
 ·exact⟨ir _,Ch.refl _ _,[],M,NewRows.nil _,rfl⟩
 intro p A ab aR ac;obtain⟨k,o,oc⟩:=p;obtain⟨hk,H,t,hB,hN,T⟩:=ab;have U:=zu E H (fun i hi (h:i=d)=>by omega);have aS:w.heap.size<=s.heap.size:=zzs E;have ad:s.heap.size<=A.heap.size:=zzs H;have ae:d<s.heap.size:=M.lt;refine yx 1<|ys<|yc (rL (k:Int) (rows.length:Int)) (fun af=>?_) fun af=>?_
 ·obtain⟨q,hq,I⟩:=qh8 (rows:=rows) (k:=k) (by omega);have V:=(hG.line q I).2;have ag:=hG.ok.2.2.2 _ (hG.lines▸jh I);refine yk<|ys<|qa<|ysr<|yp 3 [] (.i (k:Int) (rows.length) (.l (qgV (Ch.rd (Up.ch U) hG.body.rd id) hq) .z))<|ye<|yDC [8,11] fun aT aU B=>?_;have N:=zu U B iZ;have W:=zt H B eZ;have X:=zt (Ch.refl (fun j=>j=d\/o=some j) A) B eZ;have O:=hB.ch B id;have ah:=hN.out.own.ch B iZ;refine ydC (uL 0 6) [] (fun u hu=>(.l (qg hu (O.c 2) id) .z))<|yH 6 (yC (qey q.b q.n q.cap q.l _ ((hG.line q I).1.ch (Up.ch N) id).rd (ic (hG.line q I).1.lt (zzs N)) V (by omega)) ?_);rintro _ aV ⟨m,C,rfl,ai,Y,v⟩;refine⟨_,rfl,?_⟩;have aj:A.heap.size<=m:=iq (zzs X) Y;have aW:s.heap.size<=m:=iq (zzs W) Y;have ak:Df d m:=(show¬d=m by have:=O.lt;omega)
  have al:=zu N v iZ;have Z:=zt W v eZ;have a0:=zt X v eZ;have am:=O.ch v id;have an:=ah.ch v iZ;refine qaN v<|yH 7 (yB [.slice (some ⟨m,0,none⟩) q.n C] 118 1 fun aX P Q aY ao y=>?_);have aZ:=zn Q al;have b0:s.heap.size<=P:=by rw[Q];exact zzs Z
  have b1:A.heap.size<=P:=by rw[Q];exact zzs a0
  have ap:=zt Z y eZ;have a1:=zt a0 y eZ;have a2:=am.ch y id;have a3:=an.ch y iZ;have R:=ai.ch y id;refine qaN y ?_;refine yK 8 (qaE 118 1 24 o k oc (t.map Row.val) (some ⟨P,0,none⟩) 1 1 [Row.val (Row.mk m q.n C q.l)] (some 33) (k+1) rfl ((t++[(Row.mk m q.n C q.l)]).map Row.val) (by rw[iI];rfl) (by kernel_rfl) a3 (Rd.all ao) rfl rfl (fun h=>by cases h) (by constructor<;>first|omega|(simp only[maxLen];omega)) ?_);intro b2 aq a4 ar S au J;obtain⟨K,rfl⟩:∃b,aq=some b:=au (by omega);have a5:¬o=some d:=fun e=>by have:=hN.lo _ e;have:=M.lt;omega
  have a6:¬o=some m:=qaP a3 R;have av:Df d K:=qbs S (fun e=>a5 e) a2.lt;have b3:Df m K:=qbs S (fun e=>a6 e) R.lt;have aw:=zt ap J (fun i hi h=>by have:=hN.lo _ h;omega);have ax:=zt a1 J (fun _ _ h=> .inr h);have ay:=a2.ch J a5;have az:=R.ch J a6;refine q8<|yd [9,10] [] .z<|yK 11 (yT [iX G.w,iX G.h,.slice (some ⟨K,0,none⟩) (k+1) a4] ay fun b4 aA L=>?_);have aB:=zt aw L iZ;have aC:=zt ax L (fun i _ (h:i=d)=> .inl h);have aD:=az.ch L (fun h=>ak h.symm);have aE:=ar.ch L (fun b e=>by cases e;exact(fun h=>av h.symm));refine q8<|yDe (nB (nS ?_));refine q7<|yp 2 [] (.q6 ((k:Int)+1) .z) ?_;have aF:=qeF (x:=(Row.mk m q.n C q.l)) hN (by omega) ad aC (fun b h=>h.imp (fun e=>by omega) id) aD aj ag V aE (S.imp id fun⟨b,e,h⟩=>⟨b,e,iq (zzs a1) h⟩);have aG:(t++[(Row.mk m q.n C q.l)]).map Row.l=(rows.map Row.l).take (k+1):=by rw[iI,T,qcX hq];rfl
  refine yE (fun a ha=>ac (k+1,some K,a4) _ ⟨by omega,aB,_,aA,aF,aG⟩ (by show rows.length-(k+1)<rows.length-k;omega) a (ha.kp [3,19,20,21]))
 have aH:k=rows.length:=by omega
 obtain⟨r',rfl⟩:=hN.some (by omega);refine qm (eS (qd (qb (nS ?_))));refine yx 2<|q9 (yR1 (pX d) ?_);have a7:=hN.grid (F:=fun b=>w.heap.size<=b/\b<A.heap.size) hB ae hG.ok.1 hG.ok.2.1 (by omega) ⟨by omega,by omega⟩ (fun b h=>⟨by omega,h.2⟩) (fun b h=>⟨h.2,by omega⟩);have aI:(rows.map Row.l).take k=G.lines:=by rw[aH,<-hZ (f:=Row.l),jc,hG.lines]
 rw[T,aI]at a7;exact⟨d,_,rfl,⟨r',oc,t,a7⟩,(fun _ h=>h.1),zt (Up.ch E) H (fun i hi (h:i=d)=>by omega)⟩
theorem qll (ad:Addr)(n cap:Nat)(l:List Int)(w:World)(hr:Rd w (some ad) (l.map (Value.int .i64)))(hn:l.length=n)(hnb:n<=1000000):CP 101 [.slice (some ad) n cap].toArray w fun e w'=> ∃o cap',e= .returned (.slice (o.map at0) n cap')/\Own w' tI 1 o n cap' (l.map (Value.int .i64))/\(∀b,o=some b->w.heap.size<=b)/\Ch (fun _=>False) w w':=by
 refine yA Tryz.func101 rfl<|yx 1<|ys<|yx 2<|yc (rY ((some ad)).isNone) (fun c=>?_) fun c=>?_
 ·exact absurd c (by simp)
 refine yk<|ysr<|yo (e_bs0 3 (some 5) (by kernel_rfl) ?_);intro x d q y r f;have z:=zn q (zm w);have j:=zu (zm w) f iZ;have s:=hr.ch f iZ;refine yq 2 ?_;refine yo (qaE 3 1 8 (some d) 0 0 [] (some ad) n cap (l.map (Value.int .i64)) (some 7) n (iJ _) (l.map (Value.int .i64)) rfl (by kernel_rfl) (Own.blk r rfl (ir _)) s (by rw[hZ,hn,iN]) (by exact qN _) (fun h=>by cases h) (by constructor<;>(first|omega|(simp only[maxLen];omega))) ?_);intro A t k u m B a;obtain⟨p,rfl⟩:∃g,t=some g:=by rcases m with h|⟨g,h,_⟩<;>exact⟨_,h⟩
 replace a:=qif a;have v:=zu j a (fun i hi (h:i=d)=>by omega);refine yz 4<|q9 (yR1 (.slice (some ⟨p,0,none⟩) n k) ?_);exact⟨some p,k,rfl,u,(fun b e=>by cases e;exact qlF m (by omega) (zzs j)),Up.ch v⟩
theorem qlm (w:World):CP 101 [nX].toArray w fun e w'=> ∃o cap',e= .returned (.slice (o.map at0) 0 cap')/\Own w' tI 1 o 0 cap' (([]:List Int).map (Value.int .i64))/\(∀b,o=some b->w.heap.size<=b)/\Ch (fun _=>False) w w':=by
 refine yA Tryz.func101 rfl<|yx 1<|ys<|yx 2<|yct<|yx 1<|q9 (rS (yR1 (nX) ?_));exact⟨none,0,rfl,Own.nil _ _ _,(fun b e=>by cases e),Up.ch (zm w)⟩
theorem qnM {a:Option Addr}{n cap:Nat}{l:List Int}(w:World)(hr:Rd w a (l.map (Value.int .i64)))(hn:l.length=n)(hz:a=none->cap=0)(hnb:n<=1000000):CP 101 [.slice a n cap].toArray w fun e w'=> ∃o cap',e= .returned (.slice (o.map at0) n cap')/\Own w' tI 1 o n cap' (l.map (Value.int .i64))/\(∀b,o=some b->w.heap.size<=b)/\Ch (fun _=>False) w w':=by
 cases a with
 |some ad=>exact qll ad n cap l w hr hn hnb
 |none=>
  have c:=hr.1 rfl;obtain rfl:l=[]:=by simpa using c
  obtain rfl:0=n:=hn;rw[hz rfl];exact qlm w
structure BackN (wb w:World)(o:Option Nat)(n cap:Nat)(rows:List Row):Prop where
 out:OutAt w o n cap rows (fun b=>wb.heap.size<=b/\b<w.heap.size)
theorem BackN.nil (w:World):BackN w w none 0 0 []:=
 ⟨⟨Own.nil _ _ _,(fun x hx=>by cases hx),(fun x hx=>by cases hx),(fun b e=>by cases e),(fun b h=>by omega),(fun b h=>by omega)⟩⟩
theorem BackN.lo {wb w:World}{o:Option Nat}{n cap:Nat}{rows:List Row}(h:BackN wb w o n cap rows):∀b,o=some b->wb.heap.size<=b:=fun b e=>(h.out.oK b e).1
theorem qnN {wb wk w':World}{o o':Option Nat}{k oc oc':Nat}{rows:List Row}{x:Row}{S:Nat->Prop}(h:BackN wb wk o k oc rows)(h7:gTop<=wb.heap.size)(hs:wb.heap.size<=wk.heap.size)
  (hc:Ch S wk w') (hS:∀b,S b->b<wb.heap.size\/o=some b) (hl:LineAt w' x.b x.l x.cap) (hb:wk.heap.size<=x.b) (hn:x.l.length=x.n)
  (hown:Own w' qbY 1 o' (k+1) oc' ((rows++[x]).map Row.val)) (ho':o'=o\/ ∃b,o'=some b/\wk.heap.size<=b):BackN wb w' o' (k+1) oc' (rows++[x]):=by
 have d:=hc.size;have hlt':∀b,o'=some b->b<w'.heap.size:=fun b e=>by subst e;exact hown.lt
 refine⟨⟨hown,?_,?_,?_,fun b h=>h.2,fun b h=>by omega⟩⟩
 ·intro z hz
  rcases iD.1 hz with hz|hz
  ·have hk:=h.out.inK z hz
   refine⟨(h.out.line z hz).1.ch hc fun c=>?_,(h.out.line z hz).2⟩;rcases hS _ c with a|a
   ·omega
   ·exact qaP h.out.own (h.out.line z hz).1 a
  ·obtain rfl:=iA.1 hz
   exact⟨hl,hn⟩
 ·intro z hz
  rcases iD.1 hz with hz|hz
  ·have:=h.out.inK z hz;omega
  ·obtain rfl:=iA.1 hz
   exact⟨by omega,hl.lt⟩
 ·intro b e
  have:=hlt' b e;rcases ho' with h'|⟨b',h',f⟩
  ·have:=h.lo b (h'▸e);omega
  ·rw[e]at h';obtain rfl:=ia h';omega
theorem copy_of {w:World}{c g q m0 m1 m2 m3 m4 n3 c3 n4 c4:Nat}{o3 o4:Option Nat}{rows:List Row}{T:TS}{F1 F2:Nat->Prop}
  (hb:Blk w c (T.vals g q (.slice (o3.map at0) n3 c3) (.slice (o4.map at0) n4 c4)) qar) (h1:GridAt w g T.grid F1) (h2:GridAt w q T.other F2) (l1:∀b,F1 b->m1<=b/\b<m2) (l2:∀b,F2 b->m2<=b/\b<m3)
  (h3:OutAt w o3 n3 c3 rows (fun b=>m3<=b/\b<m4)) (e3:rows.map Row.l=T.back) (h4:Own w tI 1 o4 n4 c4 (T.parser.params.map (Value.int .i64))) (l4:∀b,o4=some b->m4<=b)
  (h7:gTop<=m0) (hc:m0<=c/\c<m1) (hm:m1<=m2/\m2<=m3/\m3<=m4/\m4<=w.heap.size):TermAt w c T (fun b=>m0<=b/\b<w.heap.size):=by
 refine⟨g,q,o3.map at0,n3,c3,o4.map at0,n4,c4,F1,F2,fun b=>m3<=b/\b<m4,fun b=>m4<=b/\b<w.heap.size,?_⟩;exact
 {blk:=hb
  g1:=h1
  g2:=h2
  bk:=⟨rows,h3.lines,e3⟩
  bcap:=⟨h3.own.2.1,fun e=>by
   cases o3 with
   |none=>exact(h3.own.2.2.2.1 rfl).2
   |some b=>cases e⟩
  ps:=⟨h4.rd,by have:=h4.1;rwa[hZ,iN]at this,(fun e=>by
   cases o4 with
   |none=>exact(h4.2.2.2.1 rfl).2
   |some b=>cases e),fun ad e=>by
   cases o4 with
   |none=>cases e
   |some b=>cases e;exact⟨l4 b rfl,h4.lt⟩⟩
  pz:=⟨o4,rfl⟩
  bz:=by
   cases o3 with
   |none=>exact .inl rfl
   |some b=>exact .inr ⟨b,0,rfl⟩
  t1:=fun h=>by have:=l1 _ h;omega
  t2:=fun h=>by have:=l2 _ h;omega
  tB:=fun h=>by omega
  tP:=fun h=>by omega
  a12:=fun b h h'=>by have:=l1 _ h;have:=l2 _ h';omega
  a1B:=fun b h h'=>by have:=l1 _ h;omega
  a2B:=fun b h h'=>by have:=l2 _ h;omega
  a1P:=fun b h h'=>by have:=l1 _ h;omega
  a2P:=fun b h h'=>by have:=l2 _ h;omega
  inF:=⟨⟨hc.1,hb.lt⟩,fun b h=>by have:=l1 _ h;omega,fun b h=>by have:=l2 _ h;omega,fun b h=>by omega,fun b h=>by omega⟩
  lt:=fun b h=>h.2
  hi:=fun b h=>by omega}
theorem qmz {w:World}{t:Nat}{T:TS}{F:Nat->Prop}(hA0:TermAt w t T F)(he:EncOk T):CP 68 [pX t].toArray w fun e w'=>
 ∃c,e= .returned (pX c)/\TermAt w' c T (fun b=>w.heap.size<=b/\b<w'.heap.size)/\Ch (fun _=>False) w w':=by
 obtain⟨g,o,ba,bn,bc,pa,pn,pc,F1,F2,FB,FP,hI⟩:=hA0;have h7:gTop<=w.heap.size:=iq (hI.hi t hI.inF.1) (Nat.le_of_lt (hI.lt t hI.inF.1));obtain⟨rows,r,S⟩:=hI.bk;have bP:=r.len;have bQ:bn<=60:=by have h2:=he.k.1;rw[<-S,hZ]at h2;omega
 refine yA Tryz.func68 rfl<|yx 1<|ysr<|yp 3 [] (.a (qap (Up.ch (zm w)) (hI.blk.cs 0 108) id) .z)<|yo (yN [.pointer none,.pointer none,iX 0,iX 0,xF,xF,xF,xF,iX 0,iX 0,iX 0,iX 0,xF,xF,xF,xF,iX 0,iX 0,iX 0,iX 0,xF,xF,xF,xF,iX 0,iX 0,iX 0,iX 0,xF,xF,xF,xF,xF,xF,xF,xF,xF,xF,xF,xF,xF,xF,xF,xF,xF,xF,xF,xF,xF,xF,xF,xF,xF,xF,xF,xF,xF,xF,xF,xF,xF,xF,xF,xF,xF,xF,xF,xF,xF,xF,xF,xF,xF,xF,xF,xF,xF,xF,xF,xF,xF,xF,xF,xF,xF,xF,xF,xF,xF,xF,xF,xF,xF,xF,xF,xF,oX,nX,iX 0,uX 0,uX 0,uX 0,iX 0,oX,nX,oX,iX 0,oX] 96 fun bR d az bS aA aB=>?_);have bT:=zn az (zm w);have aC:=zu (zm w) aB iZ;refine yo (yT (TS.vals T g o (.slice ba bn bc) (.slice pa pn pc)) aA fun bU aD aE=>?_);have aF:=zu aC aE (fun i hi (h:i=d)=>by omega);refine ye<|ys<|yDC [9,11,13] fun aG bV a2=>?_;have I:=zu aF a2 iZ;have a3:=aD.ch a2 id;refine ydC [0,1,2,3,5,6,7,8] [] (fun u hu=>(.l (qg hu (qg (Up.ch I) (hI.blk.c 0) id) id) (.l (qg hu (qg (Up.ch I) (hI.blk.c 1) id) id) .z))) ?_;have aH:=a3.lt;refine yH 4 (yC (qkq _ (hI.g1.ch (Up.ch I) iZ)) ?_);rintro _ aI ⟨y,bW,rfl,a4,a5,J⟩;refine⟨_,rfl,?_⟩;have aJ:=a4.lt;have aK:=zzs J;have a6:=zu I J iZ;have a7:=a3.ch J id;refine qaN J ?_;have bX:=a7.lt;refine yK 9 (yC (qkq _ (hI.g2.ch (Up.ch a6) iZ)) ?_);rintro _ aL ⟨D,bY,rfl,a8,a9,K⟩;refine⟨_,rfl,?_⟩;have aM:=a8.lt
 have bZ:=zzs K;have aN:=zu a6 K iZ;have aO:=a7.ch K id;have aP:=a4.ch K iZ;refine q8<|yd [10] [] .z<|yK 11 (yS aO fun c0 aQ aa=>?_);have aR:=zu aN aa (fun i hi (h:i=d)=>by omega);have aS:=zt (Ch.refl (· =d) aL) aa iZ;have aT:Blk _ d (TS.vals T y o (.slice ba bn bc) (.slice pa pn pc)) qar:=Blk.to aQ (by kernel_rfl);refine q8<|yd [12] [] .z<|yK 13 (yS aT fun c1 aU ab=>?_);have aV:=zu aR ab (fun i hi (h:i=d)=>by omega);have aW:=zt aS ab iZ;have aX:Blk _ d (TS.vals T y D (.slice ba bn bc) (.slice pa pn pc)) qar:=Blk.to aU (by kernel_rfl);refine q8<|yDe (nS ?_);refine ysr<|yq 1<|yo (yS aX fun s aY ac=>?_);have U:=zu aV ac (fun i hi (h:i=d)=>by omega);have ad:=zt aW ac iZ;have V:Blk _ d (TS.vals T y D (nX) (.slice pa pn pc)) qar:=Blk.to aY (by kernel_rfl);refine ye<|ys<|ysr<|yp 6 [] (.l (qg (Up.ch U) (hI.blk.c 97) id) .z)<|ye<|qa<|qV [0,3,25,26,27] (f':=[(0,pX t),(3,pX d),(25,.slice ba bn bc),(26,iX (bn:Int)),(27,iX 0)])<|qw (σ:=Nat×Option Nat×Nat) (fun⟨k,o,oc⟩=>[(0,pX t),(3,pX d),(25,.slice ba bn bc),(26,iX (bn:Int)),(27,iX (k:Int))]) (fun⟨k,o,oc⟩ u=>k<=bn/\Ch (· =d) s u/\ ∃A,Blk u d (TS.vals T y D (.slice (o.map at0) k oc) (.slice pa pn pc)) qar/\BackN s u o k oc A/\A.map Row.l=(rows.map Row.l).take k) (fun⟨k,o,oc⟩=>bn-k) (0,none,0) rfl ?_ ?_
 ·exact⟨ir _,Ch.refl _ _,[],V,BackN.nil _,rfl⟩
 intro p v aZ c2 b0;obtain⟨k,o,oc⟩:=p;obtain⟨hk,L,A,hB,hN,ae⟩:=aZ;have E:=zu U L (fun i hi (h:i=d)=>by omega);have b1:=zt ad L iZ;have c3:w.heap.size<=s.heap.size:=zzs U;have af:s.heap.size<=v.heap.size:=zzs L;have c4:d<s.heap.size:=V.lt;have c5:=zzs ad;refine yx 1<|ys<|yc (rL (k:Int) (bn:Int)) (fun b2=>?_) fun b2=>?_
 ·obtain⟨bb,bo,rfl⟩:=qpQ hI.bz r (by omega);obtain⟨q,hq,M⟩:=qh8 (rows:=rows) (k:=k) (by have:=r.len;omega);have ag:=(r.line q M).2;have c6:=(he.k.2 q.l (S▸jh M)).1;refine yk<|ys<|qa<|ysr<|yp 3 [] (.i (k:Int) (bn) (.l (qgV (Ch.rd (Up.ch E) r.rd id) hq) .z))<|ye<|yDC [5,7] fun c7 c8 G=>?_;have W:=zu E G iZ;have ah:=zt L G eZ;have ai:=zt (Ch.refl (fun j=>j=d\/o=some j) v) G eZ;have X:=hB.ch G id;have b3:=hN.out.own.ch G iZ;refine ydC (uL 0 3) [] (fun u hu=>(.l (qg hu (X.c 97) id) .z))<|yH 3 (yC (qey q.b q.n q.cap q.l _ ((r.line q M).1.ch (Up.ch W) id).rd (ic (r.line q M).1.lt (zzs W)) ag (by omega)) ?_);rintro _ c9 ⟨m,H,rfl,b4,aj,B⟩;refine⟨_,rfl,?_⟩;have b5:v.heap.size<=m:=iq (zzs ai) aj;have ca:s.heap.size<=m:=iq (zzs ah) aj;have b6:Df d m:=(show¬d=m by have:=X.lt;omega)
  have b7:=zu W B iZ;have ak:=zt ah B eZ;have al:=zt ai B eZ;have b8:=X.ch B id;have b9:=b3.ch B iZ;refine qaN B<|yH 4 (yB [.slice (some ⟨m,0,none⟩) q.n H] 118 1 fun cb Y Z cc bd C=>?_);have cd:=zn Z b7;have ce:s.heap.size<=Y:=by rw[Z];exact zzs ak
  have cf:v.heap.size<=Y:=by rw[Z];exact zzs al
  have bf:=zt ak C eZ;have am:=zt al C eZ;have an:=b8.ch C id;have ao:=b9.ch C iZ;have a0:=b4.ch C id;refine qaN C ?_;refine yK 5 (qaE 118 1 24 o k oc (A.map Row.val) (some ⟨Y,0,none⟩) 1 1 [Row.val (Row.mk m q.n H q.l)] (some 36) (k+1) rfl ((A++[(Row.mk m q.n H q.l)]).map Row.val) (by rw[iI];rfl) (by kernel_rfl) ao (Rd.all bd) rfl rfl (fun h=>by cases h) (by constructor<;>first|omega|(simp only[maxLen];omega)) ?_);intro cg bg ap bh a1 bi N;obtain⟨O,rfl⟩:∃b,bg=some b:=bi (by omega);have aq:¬o=some d:=fun e=>by have:=hN.lo _ e;have:=V.lt;omega
  have ar:¬o=some m:=qaP ao a0;have bj:Df d O:=qbs a1 (fun e=>aq e) an.lt;have ci:Df m O:=qbs a1 (fun e=>ar e) a0.lt;have bl:=zt bf N (fun i hi h=>by have:=hN.lo _ h;omega);have bm:=zt am N (fun _ _ h=> .inr h);have bp:=an.ch N aq;have bq:=a0.ch N ar;refine q8<|yd [6] [] .z<|yK 7 (yS bp fun cj br P=>?_);have bs:=zt bl P iZ;have bt:=zt bm P (fun i _ (h:i=d)=> .inl h);have bu:=bq.ch P (fun h=>b6 h.symm);have bv:=bh.ch P (fun b e=>by cases e;exact(fun h=>bj h.symm));have bw:Blk _ d (TS.vals T y D (.slice (some ⟨O,0,none⟩) (k+1) ap) (.slice pa pn pc)) qar:=Blk.to br (by kernel_rfl);refine q8<|yDe (nB (nS ?_));refine q7<|yp 2 [] (.q6 ((k:Int)+1) .z) ?_;have bx:=qnN (x:=(Row.mk m q.n H q.l)) hN (by omega) af bt (fun b h=>h.imp (fun e=>by omega) id) bu b5 ag bv (a1.imp id fun⟨b,e,h⟩=>⟨b,e,iq (zzs am) h⟩);have bA:(A++[(Row.mk m q.n H q.l)]).map Row.l=(rows.map Row.l).take (k+1):=by rw[iI,ae,qcX hq];rfl
  refine yE (fun a ha=>b0 (k+1,some O,ap) _ ⟨by omega,bs,_,bw,bx,bA⟩ (by show bn-(k+1)<bn-k;omega) a (ha.kp [0,3,25,26,27]))
 have bB:k=rows.length:=by have:=r.len;omega
 refine qm (eS (qd (qb (nS ?_))));refine ysr<|yp 5 [] (.l (qg (Up.ch E) (hI.blk.c 104) id) .z) ?_;have ck:=hB.lt;have cl:=zzs (Ch.refl (· =d) v);refine yo (yC (qnM _ (hI.ps.1.ch (Up.ch E) iZ) hI.ps.2.1 hI.ps.2.2.1 (by have:=he.p.n;have:=hI.ps.2.1;omega)) ?_);rintro _ cm ⟨bC,bD,rfl,bE,au,Q⟩;refine⟨_,rfl,?_⟩;have bF:=zu E Q iZ;have bG:=zt b1 Q eZ;have bH:=zt (Ch.refl (· =d) v) Q eZ;have bI:=hB.ch Q id;refine yq 8<|yo (yS bI fun cn bJ R=>?_);have bK:=zu bF R (fun i hi (h:i=d)=>by omega);have av:=zt bG R iZ;have aw:=zt bH R iZ;have bL:Blk _ d (TS.vals T y D (.slice (o.map at0) k oc) (.slice (bC.map at0) pn bD)) qar:=Blk.to bJ (by kernel_rfl);refine ye<|yx 1<|q9 (yR1 (pX d) ?_);have hP:=bE.ch R (fun b e (h:b=d)=>by have:=au b e;omega);have co:=zzs aw;have bM:(rows.map Row.l).take k=T.back:=by rw[bB,<-hZ (f:=Row.l),jc,S]
 exact⟨d,rfl,copy_of (m0:=w.heap.size) (m1:=aG.heap.size) (m2:=aI.heap.size) (m3:=s.heap.size) (m4:=v.heap.size) bL (aP.ch av (fun b hb e=>by have:=a5 b hb;omega)) (a8.ch av (fun b hb e=>by have:=a9 b hb;omega)) (fun b hb=>⟨a5 b hb,aJ b hb⟩) (fun b hb=>⟨a9 b hb,by have:=aM b hb;omega⟩) (hN.out.ch aw (fun b hb e=>by omega)) (ae.trans bM) hP (fun b e=>by have:=au b e;omega) h7 ⟨by omega,aH⟩ ⟨aK,by omega,af,by omega⟩,Up.ch bK⟩
theorem apply_at {t:Nat}{T:TS}{F:Nat->Prop}(e:Ev)(w:World)(hA:(qay t T).P w F)(hg:Gz w F)(hT:LT w)(hFi:Fine T)(hz:e.data.size<=1000000):CP 75 [pX t,.agg e.vals.toArray].toArray w fun x w'=>x= .returned (.tuple #[])/\qe5 (qay t T) (qay t (qae T e)) F w w':=by
 have h:=Sep.one hA fun b hb=>(hg.lo b hb).2;obtain⟨⟨W,H,hL⟩,hp⟩:=hFi;refine yA Tryz.func75 rfl<|ysr<|yo (zN [iX e.time,iX e.kind,.string e.data,iX e.w,iX e.h] 66 h fun u m h=>?_);refine ye<|ysr<|yp 2 [] (.l (h.c 1 1) .z)<|ye<|qa<|yx 2<|yc (rE e.kind 0) (fun d=>?_) fun d=>?_
 ·have i:=d;refine q7<|yp 3 [] (.l (h.c 1 2) .z)<|yo (yQ (h.met 0 fun F hA hF=>write_at hA (h.lt hg hT) hL hp e.data hz) fun u h=>?_);refine yE (nB (qW ?_));have a:qae T e=(qhN T e.data):=by unfold qae;rw[if_pos i]
  rw[a];exact⟨rfl,h.finS hg 0⟩
 have g:=d;refine yx 2<|yc (rE e.kind 2) (fun f=>?_) fun f=>?_
 ·have j:=f;refine q7<|yp 5 [] (.l (h.c 1 3) (.l (h.c 1 4) .z))<|yo (yQ (h.met 0 fun F hA hF=>qp6 hA (h.lt hg hT) hL e.w e.h) fun u h=>?_);refine yE (nB (qW ?_));have a:qae T e=(qd2 T e.w e.h):=by unfold qae;rw[if_neg g,if_pos j]
  rw[a];exact⟨rfl,h.finS hg 0⟩
 have k:=f;refine qo (nB (qW ?_));have a:qae T e=T:=by unfold qae;rw[if_neg g,if_neg k]
 rw[a];exact⟨rfl,h.finS hg 0⟩
section
variable {w0 w:World}{F0:Nat->Prop}{l:List Asn}{t:Nat}{T:TS}
theorem Sep.app (h:Sep w0 F0 w l)(hg:Gz w0 F0)(hT:LT w0)(i:Nat)(e:Ev)(hFi:Fine T)(hz:e.data.size<=1000000)(hi:l[i]? =some (qay t T):=by rfl):CP 75 [pX t,.agg e.vals.toArray].toArray w fun x w'=>x= .returned (.tuple #[])/\Sep w0 F0 w' (l.set i (qay t (qae T e))):=
  h.stepA hg i (fun F hA hF=>apply_at e _ hA hF (h.lt hg hT) hFi hz) hi
theorem Sep.encT (h:Sep w0 F0 w l)(i:Nat)(he:EncOk T)(hi:l[i]? =some (qay t T):=by rfl):CP 27 [pX t].toArray w fun e w'=> ∃o n c,e= .returned (.slice (o.map at0) n c)/\Sep w0 F0 w' (l++[qa8 tU8 1 o n c (u8s (qa0 T))]):=by
 obtain⟨F,hA,_⟩:=h.at hi;exact(qi6 (tmA.at hA) he).mono fun _ _ ⟨o,n,c,he,hO,_,hlo,hc⟩=>⟨o,n,c,he,h.fresh hO hlo hc⟩
end
theorem qj1 {w:World}{D off c:Nat}{x:Int}{l:List Int}(h:Rd w (some ⟨D,off,none⟩) (u8s (x::l)))(hl:l.length+1<=c):Rd w (some ⟨D,if c=1 then off else off+1*1,none⟩) (u8s l):=by
 split
 ·obtain rfl:l=[]:=iy (by omega);exact Rd.nil _ _
 exact qle h 1
theorem qmA {fr:Int}{s s1:RS}{e:Ev}(h:evR fr s=(some e,s1)):evB e=true:=by
 unfold evR at h;dsimp only at h;split at h
 ·obtain⟨a,_⟩:=iC h;split at a
  ·rename_i hh;rw[<-zi a];exact hh.2
  cases a
 obtain⟨a,_⟩:=iC h;split at a
 ·rename_i hh;rw[<-zi a];exact hh.2
 cases a
theorem take_at1 (b:Nat)(r:Rc)(U:TS)(F:Nat->Prop)(a:Option Addr)(m c:Nat)(f:List Int)(w:World)(hA:(qel b ⟨r,U⟩).P w F)(hg:Gz w F)(hT:LT w)(hFi:Fine U)(heo:EncOk U)(hel:(qa0 U).length<=300000)(heB:qat (qa0 U))(hla:0<=qa1 r.evs/\qa1 r.evs<=4611686018427387904)(hen:r.evs.length+1<=10000000/\r.keys.length+1<=10000000)(hr:Rd w a (u8s f))(hl:f.length=m)(hle:m<=c)(hz:(m=0/\c=0)\/ ∃b o,a=some ⟨b,o,none⟩)(hby:qat f)(hm:m<=100000000)(hne:∀ad,a=some ad-> ¬F ad.block)(hlt:∀ad,a=some ad->ad.block<w.heap.size):CP 82 [pX b,.slice a m c].toArray w fun e w'=>e= .returned (.bool (qbc ⟨r,U⟩ f).isSome)/\qe5 (qel b ⟨r,U⟩) (qel b ((qbc ⟨r,U⟩ f).getD ⟨r,U⟩)) F w w':=by
 obtain⟨x,h⟩:=Sep.startA hA hg;obtain⟨sa,sn,sc,eo,ec,ko,kc,kx,t⟩:=x;have B:=h.pure 4;have M:0<r.keys.length-> ∃kb,ko=some kb:=fun h1=>h.rc.kb h1;refine yA Tryz.func82 rfl<|yx 1<|ys<|yx 3<|yc (rE (m:Int) 0) (fun S=>?_) fun S=>?_
 ·have bf:=S;refine yx 1<|q9 (rS (yR1 (xF) ?_));obtain rfl:f=[]:=iy (by omega);rw[show qbc ⟨r,U⟩ []=none from rfl];exact⟨rfl,(Sep.scan (start:=r.start) (evs:=r.evs) (keys:=r.keys) kx (h.ord [0,1,2,3,5]).eqv rfl rfl rfl rfl B).finS hg 0⟩
 have bg:=S;obtain⟨h0,_⟩|⟨D,p,rfl⟩:=hz
 ·exfalso;omega
 obtain⟨K,l,rfl⟩:∃K l,f=K::l:=by cases f with|nil=>simp at hl;omega|cons x y=>exact⟨x,y,rfl⟩
 have hD:=hne _ rfl;have ai:=hlt _ rfl;have bi:l.length+1=m:=hl;have g:qat l:=fun y hy=>hby y (j6 _ hy);refine yk<|ys<|ysr<|yp 3 [] (.i 0 (m) (.l (u8_at (b:=D) (o:=p) (hr.ch h.ch (fun ad e=>by cases e;exact hD)) 0 (Nat.zero_lt_succ _)) .z))<|ye<|qa<|yx 2<|yc (rE K 69) (fun V=>?_) fun V=>?_
 ·have W:=V;refine ysr<|yp 2 [] (.j 1 (m) .z)<|yo (yC (of_any D (some ⟨D,(if c=(1:Int).toNat then p else p+(1:Int).toNat*1),none⟩) (m-(1:Int).toNat) (c-(1:Int).toNat) l _ (qj1 (hr.ch h.ch (fun ad e=>by cases e;exact hD)) (by omega)) (by omega) (by omega) (.inr ⟨_,rfl⟩) g (by omega) (ic ai h.ch.size)) ?_);rintro _ u ⟨rv,rfl,aE,aF,aG⟩;refine⟨_,rfl,?_⟩;have h:=h.addR hD ai aF aE aG;refine yz 4<|ysr<|yq 4<|yo (yQ (h.look (qcV b _ h.rc)) fun u h=>?_);obtain⟨vo,R,hE⟩:∃vo R,evR (qa1 r.evs) (some l)=(vo,R):=⟨_,_,rfl⟩
  refine yo (yQ (h.readO 6 hD fun hA=>qnG (qa1 r.evs) _ hA hE hla) fun u h=>?_);refine yq 9<|yo (zN [iX 0,iX 0,oX,iX 0,iX 0] 66 h fun u bj h=>?_);refine yo (zs h 7 fun u h=>?_);refine yz 12<|ys<|ysr<|yq 3<|yw [31] (rN (rY vo.isSome)) (fun X=>?_) fun X=>?_
  ·have aH:=X;refine yz 7<|yct<|yx 1<|q9 (rS (rB (rS (yR1 (xF) ?_))));obtain rfl:K=69:=W;rw[qmw hE (.inl (by simpa using aH))];exact⟨rfl,(Sep.scan (start:=r.start) (evs:=r.evs) (keys:=r.keys) kx (h.ord [0,1,2,3,5]).eqv rfl rfl rfl rfl B).finS hg 0⟩
  have aI:=X;obtain⟨ev,rfl⟩:=jN.1 aI;have aJ:=qmA hE;have aK:ev.data.size<=1000000:=by have:=(qfV aJ).1.2;omega
  refine yq 4<|yo (yQ (h.look (qmk (h.rdrO 6 hD))) fun u h=>?_);refine yz 7<|yc (rN (rY (decide (R=some [])))) (fun Y=>?_) fun Y=>?_
  ·have aL:=Y;refine yx 1<|q9 (rS (rB (rS (yR1 (xF) ?_))));obtain rfl:K=69:=W;rw[qmw hE (.inr (by simpa using aL))];exact⟨rfl,(Sep.scan (start:=r.start) (evs:=r.evs) (keys:=r.keys) kx (h.ord [0,1,2,3,5]).eqv rfl rfl rfl rfl B).finS hg 0⟩
  have aM:=Y;refine yk<|ys<|zD [5] h fun u h=>yd (uL 0 5) [] (.l (h.c 0 3) (.a (h.cs 7 0 5) .z))<|yK 5 (yQ (h.app hg hT 5 ev hFi aK) fun u h=>?_);refine q8<|yDe (nS ?_);refine ys<|zDC [8,12] [0,2,3,4,5,6,7] h fun u h=>ydF (uL 0 7) [] h.on (fun u h=>(.l (h.c 0 1) (.a (h.cs 7 0 5) .z)))<|yH 7 (zB [iX ev.time,iX ev.kind,.string ev.data,iX ev.w,iX ev.h] 66 1 h fun u bk h=>?_);refine zHa h<|yK 8 (zA 1 48 1 1 (r.evs.length+1) (evsV (r.evs++[ev])) h (Rd.all (h.b 8)) rfl (hz:=(qd7 _ _).symm) fun u aN aO h bl=>?_);refine q8<|yd (uL 9 3) [] .z<|yK 12 (zs h 0 fun u h=>?_);refine q8<|yDe (nS ?_);refine yx 1<|q9 (rB (rS (yR1 (.bool true) ?_)));obtain rfl:K=69:=W;obtain rfl:R=some []:=by simpa using aM
  rw[qq7 hE];exact⟨rfl,(Sep.scan (start:=r.start) (evs:=r.evs++[ev]) (keys:=r.keys) (sa:=sa) (sn:=sn) (sc:=sc) (ko:=ko) (kc:=kc) (t:=t) (n:=r.evs.length+1) (eo:=aN) (ec:=aO) kx (h.ord [0,1,2,3,5]).eqv (by simp) rfl rfl rfl ⟨B.sl,B.sz,B.kl,by rw[hJ];exact hen.1,by have:=hen.2;dsimp only;omega⟩).finS hg 0⟩
 have aP:=V;refine yx 2<|yc (rE K 75) (fun Z=>?_) fun Z=>?_
 ·have aQ:=Z;obtain rfl:K=75:=aQ;refine ys<|zDC [13] [0,1,2,3,4,5] h fun u h=>ydF (uL 0 10) [] h.on (fun u h=>(.l (h.c 0 1) (.l (h.c 0 3) .z)))<|qas 10 12 (by kernel_rfl) (by decide) ?_ ?_
  ·refine qa4 10 _ (by kernel_rfl) rfl (yC (h.encT 5 heo) ?_);rintro _ u ⟨s,C,E,rfl,h⟩;refine⟨_,rfl,?_⟩;have N:(qa0 U).length=C:=by have:=h.len1 6;rwa[hZ]at this
   have L:s.map at0=none->E=0:=by intro e;cases hq:s with|none=>exact((h.own 6).2.2.2.1 hq).2|some q=>rw[hq]at e;cases e
   refine zHa h<|ydF [11] [] h.on (fun u h=> .z)<|yH 12 (zN [iX 0,nX] 51 h fun u aj h=>?_);refine zHa h<|yK 13 (zs h 7 fun u h=>?_);refine q8<|yDe (nS ?_);refine ys ?_;have h:=h.nrm 7 [iX (r.evs.length:Int),.slice (s.map at0) C E];refine qdQ (σ:=Bool) (fun gs=>[(0,pX b),(8,pX aj),(103,.bool gs)]) (fun gs u=>(gs=true->qbc ⟨r,U⟩ (75::l)=none)/\(gs=false->qR ⟨r.evs.length,qa0 U⟩=l/\ ¬(0<r.keys.length/\(gky r.keys (r.keys.length-1)).after=r.evs.length))/\Sep w F u [qbB b [.slice sa sn sc,.slice (eo.map at0) r.evs.length ec,.slice (ko.map at0) r.keys.length kc,pX t] 104,qa8 tEv 5 eo r.evs.length ec (evsV r.evs),qa8 qhf 2 ko r.keys.length kc (qaC kx r.keys 0),roA (roL ⟨sa,sn,sc,eo,ec,ko,kc,kx,t⟩ r),qdj (ScOk ⟨sa,sn,sc,eo,ec,ko,kc,kx,t⟩ r),qay t U,qa8 tU8 1 s C E (u8s (qa0 U)),qbB aj [iX (r.evs.length:Int),.slice (s.map at0) C E] 51]) (fun bm I=>?_) (fun gs u h=>?_)
   ·refine zDC [1,2] [0,1,2,3,4,5,6,7] h fun u h=>ydF [0,3] [] h.on (fun u h=>(.a (h.cs 7 0 2) .z))<|ydT [4] [] h.on (fun _=>(.j 1 (m) .z))<|qas 1 5 (by kernel_rfl) (by decide) ?_ ?_
    ·refine qav 1 _ (by kernel_rfl) rfl (yC (qcW ⟨r.evs.length,qa0 U⟩ (s.map at0) C E _ (h.ownRd' 6) N L (by have:=N;omega) (by dsimp only;omega)) ?_);rintro _ u ⟨ak,a0,al,rfl,aR⟩;refine⟨_,rfl,?_⟩;have h:=h.join aR;have am:(qR ⟨r.evs.length,qa0 U⟩).length=a0:=by have:=h.len1 8;rwa[hZ]at this
     refine zK (is:=[0,1,2,3,4,5,6,7]) h<|qas 2 5 (by kernel_rfl) (by decide) ?_ ?_
     ·refine qav 2 _ (by kernel_rfl) rfl (qE (ak.map at0) a0 al (qR ⟨r.evs.length,qa0 U⟩) (some 70) (by kernel_rfl) (h.ownRd' 8) am ?_);refine zK (is:=[0,1,2,3,4,5,6,7]) h<|yH 5 (qE (some ⟨D,(if c=(1:Int).toNat then p else p+(1:Int).toNat*1),none⟩) (m-(1:Int).toNat) (c-(1:Int).toNat) l (some 73) (by kernel_rfl) (qj1 (hr.ch h.ch (fun ad e=>by cases e;exact hD)) (by omega)) (by omega) ?_);refine zH h<|ydF [6,7] [] h.on (fun u h=> .z)<|yv [75] (rN (rY (((qf (qR ⟨r.evs.length,qa0 U⟩))).toList==((qf l)).toList))) (fun a1=>?_) fun a1=>?_
      ·have aS:=a1;refine ydF (uL 8 28) [] h.on (fun u h=> .z) ?_;have d:=qx (l:=qR ⟨r.evs.length,qa0 U⟩) (ql (qp (by dsimp only;omega)) heB) g;refine yDe (fun a ha=>I true _ ⟨fun _=>qbl fun hh=>absurd hh.1 (jl (d.symm.trans aS)),fun e=>(by cases e),h.take 8⟩ a (ha.kp [0,8,103]))
      have an:=a1;refine ydF (uL 8 8) [] h.on (fun u h=>(.l (h.c 0 2) .z))<|yv [83] (rL 0 (r.keys.length:Int)) (fun a2=>?_) fun a2=>?_
      ·have bn:=a2;obtain⟨kb,rfl⟩:=M (by omega);refine ydF (uL 16 20) [] h.on (fun u h=>(.l (h.c 0 2) (.l (h.c 0 2) (.q6 ((r.keys.length:Int)-1) (.i ((r.keys.length:Int)-1) (r.keys.length) (.l (h.kya 2 ((r.keys.length:Int)-1) (r.keys.length-1) (hq:=(show(r.keys.length-1)<r.keys.length by omega))) (.l (h.c 7 0) .z))))))) ?_;have d:=qx (l:=qR ⟨r.evs.length,qa0 U⟩) (ql (qp (by dsimp only;omega)) heB) g;refine yDe (fun a ha=>I (((((gky r.keys (r.keys.length-1)).after:Nat):Int):Int)==(r.evs.length:Int)) _ ⟨fun e=>qbl fun hh=>hh.2 ⟨by omega,by have:=iU.1 e;omega⟩,fun e=>⟨iK (d.symm.trans an),fun hh=>(jt.1 e) (by have:=hh.2;omega)⟩,h.take 8⟩ a (ha.kp [0,8,103]))
      have bo:=a2;refine ydF (uL 16 20) [] h.on (fun u h=> .z) ?_;have d:=qx (l:=qR ⟨r.evs.length,qa0 U⟩) (ql (qp (by dsimp only;omega)) heB) g;refine yDe (fun a ha=>I false _ ⟨fun e=>(by cases e),fun _=>⟨iK (d.symm.trans an),fun hh=>absurd hh.1 (by omega)⟩,h.take 8⟩ a (ha.kp [0,8,103]))
     refine qa4 5 _ (by kernel_rfl) rfl (qE (some ⟨D,(if c=(1:Int).toNat then p else p+(1:Int).toNat*1),none⟩) (m-(1:Int).toNat) (c-(1:Int).toNat) l (some 73) (by kernel_rfl) (qj1 (hr.ch h.ch (fun ad e=>by cases e;exact hD)) (by omega)) (by omega) ?_);refine zH h<|yK 2 (qE (ak.map at0) a0 al (qR ⟨r.evs.length,qa0 U⟩) (some 70) (by kernel_rfl) (h.ownRd' 8) am ?_);refine q8<|yd [6,7] [] .z<|yv [75] (rN (rY (((qf (qR ⟨r.evs.length,qa0 U⟩))).toList==((qf l)).toList))) (fun a3=>?_) fun a3=>?_
     ·have aT:=a3;refine yd (uL 8 28) [] .z ?_;have d:=qx (l:=qR ⟨r.evs.length,qa0 U⟩) (ql (qp (by dsimp only;omega)) heB) g;refine yDe (fun a ha=>I true _ ⟨fun _=>qbl fun hh=>absurd hh.1 (jl (d.symm.trans aT)),fun e=>(by cases e),h.take 8⟩ a (ha.kp [0,8,103]))
     have ao:=a3;refine yd (uL 8 8) [] (.l (h.c 0 2) .z)<|yv [83] (rL 0 (r.keys.length:Int)) (fun a4=>?_) fun a4=>?_
     ·have bp:=a4;obtain⟨kb,rfl⟩:=M (by omega);refine yd (uL 16 20) [] (.l (h.c 0 2) (.l (h.c 0 2) (.q6 ((r.keys.length:Int)-1) (.i ((r.keys.length:Int)-1) (r.keys.length) (.l (h.kya 2 ((r.keys.length:Int)-1) (r.keys.length-1) (hq:=(show(r.keys.length-1)<r.keys.length by omega))) (.l (h.c 7 0) .z)))))) ?_;have d:=qx (l:=qR ⟨r.evs.length,qa0 U⟩) (ql (qp (by dsimp only;omega)) heB) g;refine yDe (fun a ha=>I (((((gky r.keys (r.keys.length-1)).after:Nat):Int):Int)==(r.evs.length:Int)) _ ⟨fun e=>qbl fun hh=>hh.2 ⟨by omega,by have:=iU.1 e;omega⟩,fun e=>⟨iK (d.symm.trans ao),fun hh=>(jt.1 e) (by have:=hh.2;omega)⟩,h.take 8⟩ a (ha.kp [0,8,103]))
     have bq:=a4;refine yd (uL 16 20) [] .z ?_;have d:=qx (l:=qR ⟨r.evs.length,qa0 U⟩) (ql (qp (by dsimp only;omega)) heB) g;refine yDe (fun a ha=>I false _ ⟨fun e=>(by cases e),fun _=>⟨iK (d.symm.trans ao),fun hh=>absurd hh.1 (by omega)⟩,h.take 8⟩ a (ha.kp [0,8,103]))
    refine qa4 5 _ (by kernel_rfl) rfl (qE (some ⟨D,(if c=(1:Int).toNat then p else p+(1:Int).toNat*1),none⟩) (m-(1:Int).toNat) (c-(1:Int).toNat) l (some 73) (by kernel_rfl) (qj1 (hr.ch h.ch (fun ad e=>by cases e;exact hD)) (by omega)) (by omega) ?_);refine zH h<|yK 1 (yC (qcW ⟨r.evs.length,qa0 U⟩ (s.map at0) C E _ (h.ownRd' 6) N L (by have:=N;omega) (by dsimp only;omega)) ?_);rintro _ u ⟨aU,ap,aV,rfl,aW⟩;refine⟨_,rfl,?_⟩;have h:=h.join aW;have aX:(qR ⟨r.evs.length,qa0 U⟩).length=ap:=by have:=h.len1 8;rwa[hZ]at this
    refine q8<|yK 2 (qE (aU.map at0) ap aV (qR ⟨r.evs.length,qa0 U⟩) (some 70) (by kernel_rfl) (h.ownRd' 8) aX ?_);refine q8<|yd [6,7] [] .z<|yv [75] (rN (rY (((qf (qR ⟨r.evs.length,qa0 U⟩))).toList==((qf l)).toList))) (fun a5=>?_) fun a5=>?_
    ·have aY:=a5;refine yd (uL 8 28) [] .z ?_;have d:=qx (l:=qR ⟨r.evs.length,qa0 U⟩) (ql (qp (by dsimp only;omega)) heB) g;refine yDe (fun a ha=>I true _ ⟨fun _=>qbl fun hh=>absurd hh.1 (jl (d.symm.trans aY)),fun e=>(by cases e),h.take 8⟩ a (ha.kp [0,8,103]))
    have aq:=a5;refine yd (uL 8 8) [] (.l (h.c 0 2) .z)<|yv [83] (rL 0 (r.keys.length:Int)) (fun a6=>?_) fun a6=>?_
    ·have br:=a6;obtain⟨kb,rfl⟩:=M (by omega);refine yd (uL 16 20) [] (.l (h.c 0 2) (.l (h.c 0 2) (.q6 ((r.keys.length:Int)-1) (.i ((r.keys.length:Int)-1) (r.keys.length) (.l (h.kya 2 ((r.keys.length:Int)-1) (r.keys.length-1) (hq:=(show(r.keys.length-1)<r.keys.length by omega))) (.l (h.c 7 0) .z)))))) ?_;have d:=qx (l:=qR ⟨r.evs.length,qa0 U⟩) (ql (qp (by dsimp only;omega)) heB) g;refine yDe (fun a ha=>I (((((gky r.keys (r.keys.length-1)).after:Nat):Int):Int)==(r.evs.length:Int)) _ ⟨fun e=>qbl fun hh=>hh.2 ⟨by omega,by have:=iU.1 e;omega⟩,fun e=>⟨iK (d.symm.trans aq),fun hh=>(jt.1 e) (by have:=hh.2;omega)⟩,h.take 8⟩ a (ha.kp [0,8,103]))
    have bs:=a6;refine yd (uL 16 20) [] .z ?_;have d:=qx (l:=qR ⟨r.evs.length,qa0 U⟩) (ql (qp (by dsimp only;omega)) heB) g;refine yDe (fun a ha=>I false _ ⟨fun e=>(by cases e),fun _=>⟨iK (d.symm.trans aq),fun hh=>absurd hh.1 (by omega)⟩,h.take 8⟩ a (ha.kp [0,8,103]))
   obtain⟨a7,O,h⟩:=h;refine yc (rY gs) (fun a8=>?_) fun a8=>?_
   ·have aZ:=a8;refine yx 1<|q9 (rS (rB (rS (yR1 (xF) ?_))));rw[a7 aZ];exact⟨rfl,(Sep.scan (start:=r.start) (evs:=r.evs) (keys:=r.keys) kx (h.ord [0,1,2,3,5]).eqv rfl rfl rfl rfl B).finS hg 0⟩
   have ar:=a8;refine yk<|ys<|zDC [8,12] [0,1,3,4,5,6,7] h fun u h=>ydF (uL 0 7) [] h.on (fun u h=>(.l (h.c 0 2) (.a (h.cs 7 0 2) .z)))<|yH 7 (zB [iX (r.evs.length:Int),.slice (s.map at0) C E] 51 1 h fun u bt h=>?_);refine zHa h<|yK 8 (zA 2 32 1 1 (r.keys.length+1) (qaC (kxS kx r.keys.length (s.map at0,C,E)) (r.keys++[⟨r.evs.length,qa0 U⟩]) 0) h (Rd.all (h.b 8)) rfl (hz:=qfD (k:=⟨r.evs.length,qa0 U⟩) (v:=(s.map at0,C,E))) fun u b0 b1 h bu=>?_);refine q8<|yd (uL 9 3) [] .z<|yK 12 (zs h 0 fun u h=>?_);refine q8<|yDe (nS ?_);refine yx 1<|q9 (rB (rS (yR1 (.bool true) ?_)));rw[qkn (O ar).1 (O ar).2];have h:=h.toRo 3 6 (s.map at0) (qa0 U) fun hO=>⟨hO.rd,fun ad e=>by cases hq:s with|none=>rw[hq]at e;cases e|some q=>rw[hq]at e;obtain rfl:=zi e;rfl⟩
   exact⟨rfl,(Sep.scan (start:=r.start) (evs:=r.evs) (keys:=r.keys++[⟨r.evs.length,qa0 U⟩]) (eo:=eo) (ec:=ec) (t:=t) (m:=r.keys.length+1) (ko:=b0) (kc:=b1) (kxS kx r.keys.length (s.map at0,C,E)) (h.ord [0,1,2,3,5]).eqv rfl (by simp) rfl (qiY (x:=⟨sa,sn,sc,eo,ec,ko,kc,kx,t⟩) (r:=r) (k:=⟨r.evs.length,qa0 U⟩) (v:=(s.map at0,C,E)) rfl rfl rfl rfl) (qh3 B ⟨rfl,rfl,rfl⟩ rfl rfl rfl N L ⟨by have:=hen.1;dsimp only;omega,by rw[hJ];exact hen.2⟩)).finS hg 0⟩
  refine qa4 12 _ (by kernel_rfl) rfl (zN [iX 0,nX] 51 h fun u au h=>?_);refine zHa h<|yH 10 (yC (h.encT 5 heo) ?_);rintro _ u ⟨A,G,H,rfl,h⟩;refine⟨_,rfl,?_⟩;have Q:(qa0 U).length=G:=by have:=h.len1 7;rwa[hZ]at this
  have L:A.map at0=none->H=0:=by intro e;cases hq:A with|none=>exact((h.own 7).2.2.2.1 hq).2|some q=>rw[hq]at e;cases e
  refine zHa h<|ydF [11] [] h.on (fun u h=> .z)<|yK 13 (zs h 6 fun u h=>?_);refine q8<|yDe (nS ?_);refine ys ?_;have h:=h.nrm 6 [iX (r.evs.length:Int),.slice (A.map at0) G H];refine qdQ (σ:=Bool) (fun gs=>[(0,pX b),(8,pX au),(103,.bool gs)]) (fun gs u=>(gs=true->qbc ⟨r,U⟩ (75::l)=none)/\(gs=false->qR ⟨r.evs.length,qa0 U⟩=l/\ ¬(0<r.keys.length/\(gky r.keys (r.keys.length-1)).after=r.evs.length))/\Sep w F u [qbB b [.slice sa sn sc,.slice (eo.map at0) r.evs.length ec,.slice (ko.map at0) r.keys.length kc,pX t] 104,qa8 tEv 5 eo r.evs.length ec (evsV r.evs),qa8 qhf 2 ko r.keys.length kc (qaC kx r.keys 0),roA (roL ⟨sa,sn,sc,eo,ec,ko,kc,kx,t⟩ r),qdj (ScOk ⟨sa,sn,sc,eo,ec,ko,kc,kx,t⟩ r),qay t U,qbB au [iX (r.evs.length:Int),.slice (A.map at0) G H] 51,qa8 tU8 1 A G H (u8s (qa0 U))]) (fun bv J=>?_) (fun gs u h=>?_)
  ·refine zDC [1,2] [0,1,2,3,4,5,6,7] h fun u h=>ydF [0,3] [] h.on (fun u h=>(.a (h.cs 6 0 2) .z))<|ydT [4] [] h.on (fun _=>(.j 1 (m) .z))<|qas 1 5 (by kernel_rfl) (by decide) ?_ ?_
   ·refine qav 1 _ (by kernel_rfl) rfl (yC (qcW ⟨r.evs.length,qa0 U⟩ (A.map at0) G H _ (h.ownRd' 7) Q L (by have:=Q;omega) (by dsimp only;omega)) ?_);rintro _ u ⟨av,a9,aw,rfl,b2⟩;refine⟨_,rfl,?_⟩;have h:=h.join b2;have ax:(qR ⟨r.evs.length,qa0 U⟩).length=a9:=by have:=h.len1 8;rwa[hZ]at this
    refine zK (is:=[0,1,2,3,4,5,6,7]) h<|qas 2 5 (by kernel_rfl) (by decide) ?_ ?_
    ·refine qav 2 _ (by kernel_rfl) rfl (qE (av.map at0) a9 aw (qR ⟨r.evs.length,qa0 U⟩) (some 70) (by kernel_rfl) (h.ownRd' 8) ax ?_);refine zK (is:=[0,1,2,3,4,5,6,7]) h<|yH 5 (qE (some ⟨D,(if c=(1:Int).toNat then p else p+(1:Int).toNat*1),none⟩) (m-(1:Int).toNat) (c-(1:Int).toNat) l (some 73) (by kernel_rfl) (qj1 (hr.ch h.ch (fun ad e=>by cases e;exact hD)) (by omega)) (by omega) ?_);refine zH h<|ydF [6,7] [] h.on (fun u h=> .z)<|yv [75] (rN (rY (((qf (qR ⟨r.evs.length,qa0 U⟩))).toList==((qf l)).toList))) (fun aa=>?_) fun aa=>?_
     ·have b3:=aa;refine ydF (uL 8 28) [] h.on (fun u h=> .z) ?_;have d:=qx (l:=qR ⟨r.evs.length,qa0 U⟩) (ql (qp (by dsimp only;omega)) heB) g;refine yDe (fun a ha=>J true _ ⟨fun _=>qbl fun hh=>absurd hh.1 (jl (d.symm.trans b3)),fun e=>(by cases e),h.take 8⟩ a (ha.kp [0,8,103]))
     have ay:=aa;refine ydF (uL 8 8) [] h.on (fun u h=>(.l (h.c 0 2) .z))<|yv [83] (rL 0 (r.keys.length:Int)) (fun ab=>?_) fun ab=>?_
     ·have bw:=ab;obtain⟨kb,rfl⟩:=M (by omega);refine ydF (uL 16 20) [] h.on (fun u h=>(.l (h.c 0 2) (.l (h.c 0 2) (.q6 ((r.keys.length:Int)-1) (.i ((r.keys.length:Int)-1) (r.keys.length) (.l (h.kya 2 ((r.keys.length:Int)-1) (r.keys.length-1) (hq:=(show(r.keys.length-1)<r.keys.length by omega))) (.l (h.c 6 0) .z))))))) ?_;have d:=qx (l:=qR ⟨r.evs.length,qa0 U⟩) (ql (qp (by dsimp only;omega)) heB) g;refine yDe (fun a ha=>J (((((gky r.keys (r.keys.length-1)).after:Nat):Int):Int)==(r.evs.length:Int)) _ ⟨fun e=>qbl fun hh=>hh.2 ⟨by omega,by have:=iU.1 e;omega⟩,fun e=>⟨iK (d.symm.trans ay),fun hh=>(jt.1 e) (by have:=hh.2;omega)⟩,h.take 8⟩ a (ha.kp [0,8,103]))
     have bx:=ab;refine ydF (uL 16 20) [] h.on (fun u h=> .z) ?_;have d:=qx (l:=qR ⟨r.evs.length,qa0 U⟩) (ql (qp (by dsimp only;omega)) heB) g;refine yDe (fun a ha=>J false _ ⟨fun e=>(by cases e),fun _=>⟨iK (d.symm.trans ay),fun hh=>absurd hh.1 (by omega)⟩,h.take 8⟩ a (ha.kp [0,8,103]))
    refine qa4 5 _ (by kernel_rfl) rfl (qE (some ⟨D,(if c=(1:Int).toNat then p else p+(1:Int).toNat*1),none⟩) (m-(1:Int).toNat) (c-(1:Int).toNat) l (some 73) (by kernel_rfl) (qj1 (hr.ch h.ch (fun ad e=>by cases e;exact hD)) (by omega)) (by omega) ?_);refine zH h<|yK 2 (qE (av.map at0) a9 aw (qR ⟨r.evs.length,qa0 U⟩) (some 70) (by kernel_rfl) (h.ownRd' 8) ax ?_);refine q8<|yd [6,7] [] .z<|yv [75] (rN (rY (((qf (qR ⟨r.evs.length,qa0 U⟩))).toList==((qf l)).toList))) (fun ac=>?_) fun ac=>?_
    ·have b4:=ac;refine yd (uL 8 28) [] .z ?_;have d:=qx (l:=qR ⟨r.evs.length,qa0 U⟩) (ql (qp (by dsimp only;omega)) heB) g;refine yDe (fun a ha=>J true _ ⟨fun _=>qbl fun hh=>absurd hh.1 (jl (d.symm.trans b4)),fun e=>(by cases e),h.take 8⟩ a (ha.kp [0,8,103]))
    have az:=ac;refine yd (uL 8 8) [] (.l (h.c 0 2) .z)<|yv [83] (rL 0 (r.keys.length:Int)) (fun ae=>?_) fun ae=>?_
    ·have bz:=ae;obtain⟨kb,rfl⟩:=M (by omega);refine yd (uL 16 20) [] (.l (h.c 0 2) (.l (h.c 0 2) (.q6 ((r.keys.length:Int)-1) (.i ((r.keys.length:Int)-1) (r.keys.length) (.l (h.kya 2 ((r.keys.length:Int)-1) (r.keys.length-1) (hq:=(show(r.keys.length-1)<r.keys.length by omega))) (.l (h.c 6 0) .z)))))) ?_;have d:=qx (l:=qR ⟨r.evs.length,qa0 U⟩) (ql (qp (by dsimp only;omega)) heB) g;refine yDe (fun a ha=>J (((((gky r.keys (r.keys.length-1)).after:Nat):Int):Int)==(r.evs.length:Int)) _ ⟨fun e=>qbl fun hh=>hh.2 ⟨by omega,by have:=iU.1 e;omega⟩,fun e=>⟨iK (d.symm.trans az),fun hh=>(jt.1 e) (by have:=hh.2;omega)⟩,h.take 8⟩ a (ha.kp [0,8,103]))
    have bA:=ae;refine yd (uL 16 20) [] .z ?_;have d:=qx (l:=qR ⟨r.evs.length,qa0 U⟩) (ql (qp (by dsimp only;omega)) heB) g;refine yDe (fun a ha=>J false _ ⟨fun e=>(by cases e),fun _=>⟨iK (d.symm.trans az),fun hh=>absurd hh.1 (by omega)⟩,h.take 8⟩ a (ha.kp [0,8,103]))
   refine qa4 5 _ (by kernel_rfl) rfl (qE (some ⟨D,(if c=(1:Int).toNat then p else p+(1:Int).toNat*1),none⟩) (m-(1:Int).toNat) (c-(1:Int).toNat) l (some 73) (by kernel_rfl) (qj1 (hr.ch h.ch (fun ad e=>by cases e;exact hD)) (by omega)) (by omega) ?_);refine zH h<|yK 1 (yC (qcW ⟨r.evs.length,qa0 U⟩ (A.map at0) G H _ (h.ownRd' 7) Q L (by have:=Q;omega) (by dsimp only;omega)) ?_);rintro _ u ⟨b5,aA,b6,rfl,b7⟩;refine⟨_,rfl,?_⟩;have h:=h.join b7;have b8:(qR ⟨r.evs.length,qa0 U⟩).length=aA:=by have:=h.len1 8;rwa[hZ]at this
   refine q8<|yK 2 (qE (b5.map at0) aA b6 (qR ⟨r.evs.length,qa0 U⟩) (some 70) (by kernel_rfl) (h.ownRd' 8) b8 ?_);refine q8<|yd [6,7] [] .z<|yv [75] (rN (rY (((qf (qR ⟨r.evs.length,qa0 U⟩))).toList==((qf l)).toList))) (fun af=>?_) fun af=>?_
   ·have b9:=af;refine yd (uL 8 28) [] .z ?_;have d:=qx (l:=qR ⟨r.evs.length,qa0 U⟩) (ql (qp (by dsimp only;omega)) heB) g;refine yDe (fun a ha=>J true _ ⟨fun _=>qbl fun hh=>absurd hh.1 (jl (d.symm.trans b9)),fun e=>(by cases e),h.take 8⟩ a (ha.kp [0,8,103]))
   have aB:=af;refine yd (uL 8 8) [] (.l (h.c 0 2) .z)<|yv [83] (rL 0 (r.keys.length:Int)) (fun ag=>?_) fun ag=>?_
   ·have bB:=ag;obtain⟨kb,rfl⟩:=M (by omega);refine yd (uL 16 20) [] (.l (h.c 0 2) (.l (h.c 0 2) (.q6 ((r.keys.length:Int)-1) (.i ((r.keys.length:Int)-1) (r.keys.length) (.l (h.kya 2 ((r.keys.length:Int)-1) (r.keys.length-1) (hq:=(show(r.keys.length-1)<r.keys.length by omega))) (.l (h.c 6 0) .z)))))) ?_;have d:=qx (l:=qR ⟨r.evs.length,qa0 U⟩) (ql (qp (by dsimp only;omega)) heB) g;refine yDe (fun a ha=>J (((((gky r.keys (r.keys.length-1)).after:Nat):Int):Int)==(r.evs.length:Int)) _ ⟨fun e=>qbl fun hh=>hh.2 ⟨by omega,by have:=iU.1 e;omega⟩,fun e=>⟨iK (d.symm.trans aB),fun hh=>(jt.1 e) (by have:=hh.2;omega)⟩,h.take 8⟩ a (ha.kp [0,8,103]))
   have bC:=ag;refine yd (uL 16 20) [] .z ?_;have d:=qx (l:=qR ⟨r.evs.length,qa0 U⟩) (ql (qp (by dsimp only;omega)) heB) g;refine yDe (fun a ha=>J false _ ⟨fun e=>(by cases e),fun _=>⟨iK (d.symm.trans aB),fun hh=>absurd hh.1 (by omega)⟩,h.take 8⟩ a (ha.kp [0,8,103]))
  obtain⟨a7,O,h⟩:=h;refine yc (rY gs) (fun ah=>?_) fun ah=>?_
  ·have ba:=ah;refine yx 1<|q9 (rS (rB (rS (yR1 (xF) ?_))));rw[a7 ba];exact⟨rfl,(Sep.scan (start:=r.start) (evs:=r.evs) (keys:=r.keys) kx (h.ord [0,1,2,3,5]).eqv rfl rfl rfl rfl B).finS hg 0⟩
  have aC:=ah;refine yk<|ys<|zDC [8,12] [0,1,3,4,5,6,7] h fun u h=>ydF (uL 0 7) [] h.on (fun u h=>(.l (h.c 0 2) (.a (h.cs 6 0 2) .z)))<|yH 7 (zB [iX (r.evs.length:Int),.slice (A.map at0) G H] 51 1 h fun u bD h=>?_);refine zHa h<|yK 8 (zA 2 32 1 1 (r.keys.length+1) (qaC (kxS kx r.keys.length (A.map at0,G,H)) (r.keys++[⟨r.evs.length,qa0 U⟩]) 0) h (Rd.all (h.b 8)) rfl (hz:=qfD (k:=⟨r.evs.length,qa0 U⟩) (v:=(A.map at0,G,H))) fun u bb bc h bE=>?_);refine q8<|yd (uL 9 3) [] .z<|yK 12 (zs h 0 fun u h=>?_);refine q8<|yDe (nS ?_);refine yx 1<|q9 (rB (rS (yR1 (.bool true) ?_)));rw[qkn (O aC).1 (O aC).2];have h:=h.toRo 3 7 (A.map at0) (qa0 U) fun hO=>⟨hO.rd,fun ad e=>by cases hq:A with|none=>rw[hq]at e;cases e|some q=>rw[hq]at e;obtain rfl:=zi e;rfl⟩
  exact⟨rfl,(Sep.scan (start:=r.start) (evs:=r.evs) (keys:=r.keys++[⟨r.evs.length,qa0 U⟩]) (eo:=eo) (ec:=ec) (t:=t) (m:=r.keys.length+1) (ko:=bb) (kc:=bc) (kxS kx r.keys.length (A.map at0,G,H)) (h.ord [0,1,2,3,5]).eqv rfl (by simp) rfl (qiY (x:=⟨sa,sn,sc,eo,ec,ko,kc,kx,t⟩) (r:=r) (k:=⟨r.evs.length,qa0 U⟩) (v:=(A.map at0,G,H)) rfl rfl rfl rfl) (qh3 B ⟨rfl,rfl,rfl⟩ rfl rfl rfl Q L ⟨by have:=hen.1;dsimp only;omega,by rw[hJ];exact hen.2⟩)).finS hg 0⟩
 have bd:=Z;refine qo (nB (nS ?_));refine yx 1<|q9 (yR1 (xF) ?_);rw[qmx aP bd];exact⟨rfl,(Sep.scan (start:=r.start) (evs:=r.evs) (keys:=r.keys) kx (h.ord [0,1,2,3,5]).eqv rfl rfl rfl rfl B).finS hg 0⟩
theorem qln {l:List Cel}(hw:qb6 l=true)(hc:∀c∈l,cOk c):okC l:=by
 refine⟨fun c hm=>?_,hw⟩;obtain⟨i,hi,rfl⟩:=List.mem_iff_getElem.1 hm;refine⟨(hc _ hm).1,?_⟩;obtain⟨_,a⟩:=wholeB_iff.1 hw i hi;rw[qdf hi]at a;by_cases b:(l[i]).rune=0
 ·exact .inl b
 ·have:=(a b).1
  unfold qkE at this;rw[ii]at this;exact .inr this.1
theorem qkr {T:TS}(h:DecOk T):Okt true T.grid.w T.grid.h T:=by
 have hw:=h.w;have hh:=h.h;refine⟨⟨hw,hh,⟨rfl,rfl⟩,h.o,⟨h.c.x,h.c.y⟩,⟨h.s.x,h.s.y⟩,⟨h.a.x,h.a.y⟩,h.t,h.k.1,h.r⟩,⟨fun l hl=>qln (h.g.2 l hl).2.1 (h.g.2 l hl).2.2,h.g.1,fun l hl=>by have:=(h.g.2 l hl).1;omega⟩,⟨fun l hl=>qln (h.g2.2 l hl).2.1 (h.g2.2 l hl).2.2,by rw[h.g2.1,h.o.2],fun l hl=>by have:=(h.g2.2 l hl).1;rw[h.o.1];omega⟩,fun l hl=>?_,h.c.s,fun _=>h.c.l,h.s.s,h.s.l,h.a.s,h.a.l,h.ti⟩;obtain⟨b,d,f,i⟩:=h.k.2 l hl;exact⟨qln f i,fun e=>by rw[e]at b;simp at b,d⟩
theorem qqh {s:ByteArray}(h:zb s=true):s=ByteArray.empty:=qhM h
theorem qqi {c:Int}(h:qk3 c=true):lowM c:=by
 unfold qk3 at h;rw[ii,ip,ip]at h;exact h
theorem wideM_of {c:Int}(h:qbV c=true):wideM c:=by
 unfold qbV at h;rw[jx,ii,ip,ip]at h;exact h.elim (fun h=> .inl (qqi h)) .inr
theorem bare_eq {u:US}(h:qcS u=true):u=u0:=by
 unfold qcS at h;simp only[ii,iU]at h;obtain⟨⟨⟨a,b⟩,c⟩,d⟩:=h;cases u;dsimp only at a b c d;subst a b c d;rfl
theorem uR_of {u:US}(h:utB u=true):uR u:=by
 unfold utB at h;simp only[ii,ip,jx,iU,ju]at h;obtain⟨⟨⟨e,f⟩,g⟩,d⟩:=h;obtain⟨a,b,c,n⟩:=u;dsimp only at*;have hn:n=0\/n=1\/n=2\/n=3:=by omega
 rcases hn with rfl|rfl|rfl|rfl<;>simp_all<;>exact⟨⟨by dsimp only;omega,by dsimp only;omega⟩,fun h=>by first|(exfalso;omega)|omega|simp_all,fun h=>by first|(exfalso;omega)|omega|simp_all,fun h=>by first|(exfalso;omega)|omega|simp_all,by first|exact .inl rfl|exact .inr d⟩
theorem qqj {n:Nat}{f:Nat->Bool}(h:(List.range n).all f=true):∀i,i<n->f i=true:=fun i hi=>j3.1 h i (jz.2 hi)
theorem qqk {p:PS}(h:ParsOk p):PRight p:=by
 have x:=h.st;have hr:=h.r;unfold qG at hr;by_cases f:(p.state≠7/\p.within≠0)\/(p.state≠0/\qcS p.utf=false)
 ·rw[if_pos f]at hr;cases hr
 rw[if_neg f]at hr;have b:p.state≠7->p.within=0:=fun e=>Classical.byContradiction fun k=>f (.inl ⟨e,k⟩);have hu:p.state≠0->p.utf=u0:=fun e=>bare_eq (Classical.byContradiction fun k=>f (.inr ⟨e,by simpa using k⟩));have g:qgQ p=true->p.marks=ByteArray.empty/\p.params=[]:=fun e=>by
  unfold qgQ at e;rw[ii,iU]at e;exact⟨qqh e.1,iy e.2⟩
 have n:qdB p.text=true->allB (fun c=>32<=c) p.text:=fun e i hi=>by
  unfold qdB at e;rw[ii]at e;exact iK (qqj e.1 i hi)
 have hz:p.text=ByteArray.empty->allB (fun c=>32<=c) p.text:=fun e=>by rw[e];exact qgb _
 by_cases l:p.state=0
 ·rw[if_pos l,ii,ii]at hr
  obtain⟨⟨a,j⟩,d⟩:=hr;have q:=g j;have z:=qqh d;exact⟨by omega,b,fun e=>by omega,hu,uR_of a,fun _ _ _=>q.1,fun _ _=>q.2,fun _=>z,fun e=>by omega,fun e=>by omega,hz z⟩
 have u':uR p.utf:=by rw[hu l];exact uR0
 rw[if_neg l]at hr;by_cases o:p.state=1
 ·rw[if_pos o,ii]at hr
  have q:=g hr.1;have z:=qqh hr.2;exact⟨by omega,b,fun e=>by omega,hu,u',fun _ _ _=>q.1,fun _ _=>q.2,fun _=>z,fun e=>by omega,fun e=>by omega,hz z⟩
 rw[if_neg o]at hr;by_cases m:p.state=2
 ·rw[if_pos m,ii,ii,iU]at hr
  obtain⟨⟨a,j⟩,d⟩:=hr;have z:=qqh d;unfold qbk at a;rw[ii,ii,ip]at a;exact⟨by omega,b,fun e=>by omega,hu,u',fun e=>absurd m e,fun _ _=>iy j,fun _=>z,fun _=>⟨a.1.1,fun i hi=>qqi (qqj a.2 i hi)⟩,fun e=>by omega,hz z⟩
 rw[if_neg m]at hr;by_cases s:p.state=3\/p.state=4
 ·rw[if_pos s,ii,ii]at hr
  obtain⟨⟨a,j⟩,d⟩:=hr;have z:=qqh d;unfold qbk at a;rw[ii]at a;exact⟨by omega,b,fun e=>by omega,hu,u',fun _ v w=>by omega,fun v w=>by omega,fun _=>z,fun e=>by omega,fun _ i hi=>wideM_of (qqj a.2 i hi),hz z⟩
 rw[if_neg s]at hr;by_cases t:p.state=7
 ·rw[if_pos t]at hr
  by_cases u:p.within≠5/\p.within≠6
  ·rw[if_pos u]at hr;cases hr
  rw[if_neg u,ii]at hr;have q:=g hr.1;exact⟨by omega,b,fun _=>by omega,hu,u',fun _ _ _=>q.1,fun _ _=>q.2,fun e=>by omega,fun e=>by omega,fun e=>by omega,n hr.2⟩
 rw[if_neg t,if_pos (by omega),ii]at hr;have q:=g hr.1;exact⟨by omega,b,fun e=>by omega,hu,u',fun _ _ _=>q.1,fun _ _=>q.2,fun e=>by omega,fun e=>by omega,fun e=>by omega,n hr.2⟩
theorem qql {T:TS}(h:DecOk T):OkS T:=by
 have hp:=h.p;exact⟨⟨_,_,qkr h⟩,qqk hp,⟨⟨_,_,(qkr h).lim⟩,⟨hp.u,hp.m,hp.t,hp.n,hp.b⟩⟩⟩
theorem dec_oks:∀(bs:List Int) (T:TS),qat bs->qmc (some bs)=some T->OkS T:=fun bs T hb hd=>by
 obtain⟨ys,e1,e2,hD⟩:=qk5 (s:=some bs) (fun zs e=>by obtain rfl:=ia e;exact hb) hd
 exact qql hD
structure DecW (dec:List Int->Option TS):Prop where
 no:∀q,qat q->qmc (some q)=none->dec q=none
 yes:∀q T,qat q->qmc (some q)=some T-> ∃T',dec q=some T'/\OkS T'/\ ∀{w:World} {t:Nat} {F:Nat->Prop},TermAt w t T F->TermAt w t T' F
def qo2 (T0:TS)(b:List Int):Option TS:=if b=qa0 T0 then some T0 else qmc (some b)
theorem qqm (T0:TS):qo2 T0 (qa0 T0)=some T0:=if_pos rfl
theorem qqn {T0:TS}(h:OkS T0):DecW (qo2 T0):=by
 refine⟨fun q hb hq=>?_,fun q T hb hq=>?_⟩
 ·unfold qo2
  rw[if_neg,hq];rintro rfl;rw[qka h.dec]at hq;cases hq
 ·unfold qo2
  split
  ·rename_i e
   subst e;rw[qka h.dec]at hq;obtain rfl:=ia hq;exact⟨T0,rfl,h,fun h=>h.back⟩
  ·exact⟨T,hq,dec_oks q T hb hq,fun h=>h⟩
theorem OkS.ap {T:TS}(h:OkS T){e:Ev}(hB:evB e=true):OkS (qae T e):=by
 have b:=(qfV hB).2;unfold qae;split
 ·have:=h.doN [⟨e.data,0,0⟩] 1;exact this
 split
 ·have:=h.doN [⟨e.data,e.w,e.h⟩] 1;have a:X.doN T [⟨e.data,e.w,e.h⟩] 1=qd2 T e.w e.h:=by
   show doT T ⟨e.data,e.w,e.h⟩=_;exact if_neg (by dsimp only;omega)
  rw[a]at this;exact this
 exact h
theorem take_inv {s s':Sc}{f:List Int}(h:qbc s f=some s')(hO:OkS s.T)(hl:0<=qa1 s.r.evs/\qa1 s.r.evs<=4611686018427387904):OkS s'.T/\0<=qa1 s'.r.evs/\qa1 s'.r.evs<=4611686018427387904:=by
 unfold qbc at h;split at h
 ·cases h
 split at h
 ·unfold qiV at h;split at h
  ·rename_i e he;have hb:=qmA he;obtain rfl:=zi h;refine⟨hO.ap hb,?_⟩;have:qa1 (s.r.evs++[e])=e.time:=by unfold qa1 qQ;rw[if_neg (by simp),hJ,jv,kC,qh0]
   dsimp only;rw[this];have:=(qfV hb).1.1;omega
  cases h
 split at h
 ·unfold qq3 at h;split at h
  ·obtain rfl:=zi h;exact⟨hO,hl⟩
  cases h
 cases h
section
variable {w0 w:World}{F0:Nat->Prop}{l:List Asn}
theorem Sep.takeS {b:Nat}{s:Sc}{o:Option Nat}{m c:Nat}{f:List Int}(h:Sep w0 F0 w l)(hg:Gz w0 F0)(hT:LT w0)(i j:Nat)(hO:OkS s.T)(hla:0<=qa1 s.r.evs/\qa1 s.r.evs<=4611686018427387904)(hen:s.r.evs.length+1<=10000000/\s.r.keys.length+1<=10000000)(hby:qat f)(hij:i≠j)(hi:l[i]? =some (qel b s):=by rfl)(hj:l[j]? =some (qa8 tU8 1 o m c (u8s f)):=by rfl)(hm:m<=100000000:=by omega):
    CP 82 [pX b,.slice (o.map at0) m c].toArray w fun e w'=>e= .returned (.bool (qbc s f).isSome)/\Sep w0 F0 w' (l.set i (qel b ((qbc s f).getD s))):=by
  have a:=h.own j hj;have hd:=hO.dec;have n:=h.lt hg hT;obtain⟨F,d,g,k⟩:=h.ex;have p:=h.gz hg (k i);refine(take_at1 b s.r s.T (F i) (o.map at0) m c f w (d i _ hi) p n hO.fine hd.enc (qcl hd) (qd5 hd) hla hen a.rd a.len1' a.2.1 ?_ hby hm ?_ ?_).mono fun e w' ⟨he,hA,hc⟩=>⟨he,h.upd hi F d g k hA hc⟩
  · cases o with
    |none=>exact .inl (a.2.2.2.1 rfl)
    |some q=>exact .inr ⟨q,0,rfl⟩
  · intro ad ha hF
    cases o with
    |none=>cases ha
    |some q=>
      obtain rfl:=zi ha;exact g i j hij q hF ((d j _ hj).2 q rfl)
  · intro ad ha
    cases o with
    |none=>cases ha
    |some q=>
      obtain rfl:=zi ha;exact a.lt
end
theorem rd_at1 {w:World}{D off cap n i:Nat}{l:List Int}(h:Rd w (some ⟨D,off,none⟩) (u8s l))(hl:l.length=n)(hle:n<=cap)(hi:i<=n):Rd w (some ⟨D,if cap=i then off else off+i*1,none⟩) (u8s (l.drop i)):=by
 split
 ·have:l.drop i=[]:=jF (by omega);rw[this];exact Rd.nil _ _
 exact qle h i
theorem qqo {dec:List Int->Option TS}(a:Option Addr)(n cap:Nat)(l:List Int)(w:World)(hT:LT w)(h7:gTop<=w.heap.size)(hr:Rd w a (u8s l))(hl:l.length=n)(hle:n<=cap)(hz:(n=0/\cap=0)\/ ∃b o,a=some ⟨b,o,none⟩)(hby:qat l)(hn:n<=9000000)(hdk:DecW dec):CP 52 [.slice a n cap].toArray w fun e w'=> ∃v k,e= .returned (.tuple #[v,iX ((k:Nat):Int)])/\((qfA dec l=none/\v= .pointer none/\k=0/\Ch (fun _=>False) w w')\/ ∃b s,qfA dec l=some (s,k)/\v=pX b/\NewA (qel b s) w w'):=by
 have h:=Sep.nil w;refine yA Tryz.func52 rfl<|yx 2<|ysr<|yq 1<|yo (yC (qml a n cap l _ (hr.ch h.ch fun _ _ h=>h) hl hle hz hby (by omega)) ?_);rintro _ u ⟨o1,g,xs,k,rfl,hN,hO,hA⟩;refine⟨_,rfl,?_⟩;have h:=h.app0 hO hA;have J:qat xs:=by have:=qkb hby;rw[hN]at this;exact this
 have E:=qmg (l:=l);have F:=qlb (l:=l);rw[hN]at E F;dsimp only at E F;refine yz 7<|ys<|ysr<|yq 3<|yw [18] (rE ((k:Nat):Int) 0) (fun K=>?_) fun K=>?_
 ·have af:=K;refine yz 13<|yct<|yx 2<|q9 (rS (yR2 [.pointer none,iX 0] .z ?_));exact⟨_,0,rfl,.inl ⟨qiZ hN (.inl (by omega)),rfl,rfl,h.ch⟩⟩
 have ag:=K;refine yq 8<|yw [23] (rE (xs.length:Int) 0) (fun L=>?_) fun L=>?_
 ·have ah:=L;refine yz 13<|yct<|yx 2<|q9 (rS (yR2 [.pointer none,iX 0] .z ?_));exact⟨_,0,rfl,.inl ⟨qiZ hN (.inr (.inl (iy (by omega)))),rfl,rfl,h.ch⟩⟩
 have X:=L;obtain⟨G,rfl⟩:=h.isO 0;obtain⟨B,q,rfl⟩:∃B q,xs=B::q:=by cases xs with|nil=>exact absurd (show(([]:List Int).length:Int)=0 from rfl) X|cons c q=>exact⟨c,q,rfl⟩
 have ai:(B::q).length=q.length+1:=rfl;have aj:(B::q).length<=g:=(h.own 0).2.1;have M:qat q:=fun y hy=>J y (j6 _ hy);refine yp 13 [] (.i 0 ((B::q).length) (.l (o:=0) (u8_at (h.brd 0) 0 (by omega)) .z))<|ye<|yc (rI ((B::q).getD 0 0) 83) (fun N=>?_) fun N=>?_
 ·have Y:=N;refine yx 2<|q9 (rS (yR2 [.pointer none,iX 0] .z ?_));exact⟨_,0,rfl,.inl ⟨qiZ hN (.inr (.inr Y)),rfl,rfl,h.ch⟩⟩
 have Z:=N;obtain rfl:B=83:=Z;refine yk<|ysr<|yp 2 [] (.j 1 ((83::q).length) .z)<|yo (yC (qnK G (some ⟨G,(if g=(1:Int).toNat then 0 else 0+(1:Int).toNat*1),none⟩) ((83::q).length-(1:Int).toNat) (g-(1:Int).toNat) q _ _ (qaW h.ch hT (fun _ h=>h.elim)) (iq h7 h.ch.size) (qj1 (h.brd 0) (by omega)) (by omega) (by omega) (.inr ⟨_,rfl⟩) M (by omega) (h.own 0).lt rfl) ?_);rintro _ u ⟨vd,xd,rfl,S,a0⟩;refine⟨_,rfl,?_⟩;rcases a0 with⟨x,rfl,rfl⟩|⟨t,T,x,rfl,rfl,a1⟩
 ·have h:=h.same S;have x:=hdk.no _ M x;refine yz 8<|ys<|yx 2<|yct<|yx 2<|q9 (rS (yR2 [.pointer none,iX 0] .z ?_));exact⟨_,0,rfl,.inl ⟨by rw[qh4 hN (by omega),show dec q=none from x],rfl,rfl,h.ch⟩⟩
 obtain⟨T,x,a2,a3⟩:=hdk.yes _ _ M x;have h:=h.newTm (a3 a1) S;refine yz 8<|ys<|yx 2<|ycf<|yk<|ysr<|yp 5 [] (.j 1 ((83::q).length) .z)<|yo (zN [.slice (some ⟨G,(if g=(1:Int).toNat then 0 else 0+(1:Int).toNat*1),none⟩) ((83::q).length-(1:Int).toNat) (g-(1:Int).toNat),nX,nX,pX t] 104 h fun u A h=>?_);refine yz 7<|qa ?_;obtain⟨h0,_⟩|⟨D,I,rfl⟩:=hz
 ·exfalso;omega
 have h:=h.own0 tEv 5;have h:=h.own0 qhf 2;have h:=h.ro0;have a4:=h.brd 0;have h:=h.toRo (o:=some G) 5 0 (some ⟨G,(if g=(1:Int).toNat then 0 else 0+(1:Int).toNat*1),none⟩) q (fun _=>⟨qj1 a4 (by omega),fun ad e=>by cases e;rfl⟩);have h:=Sep.scan (b:=A) (U:=T) (sa:=(some ⟨G,(if g=(1:Int).toNat then 0 else 0+(1:Int).toNat*1),none⟩)) (sn:=((83::q).length-(1:Int).toNat)) (sc:=(g-(1:Int).toNat)) (eo:=none) (ec:=0) (ko:=none) (kc:=0) (t:=t) (n:=0) (m:=0) (start:=q) (evs:=[]) (keys:=[]) (fun _=>(none,0,0)) (h.ord [2,3,4,5,1]).eqv rfl rfl rfl rfl ⟨by dsimp only;omega,(fun e=>by cases e),fun i hi=>absurd hi (j0 _),ir _,ir _⟩;refine qV [0,5,8] (f':=[(0,.slice (some ⟨D,I,none⟩) n cap),(5,iX ((k:Nat):Int)),(8,pX A)])<|qw (σ:=Sc×Nat×Nat) (fun⟨s,d,fu⟩=>[(0,.slice (some ⟨D,I,none⟩) n cap),(5,iX (d:Int)),(8,pX A)]) (fun⟨s,d,fu⟩ u=>qfz fu s (l.drop d) d=qfz l.length ⟨⟨q,[],[]⟩,T⟩ (l.drop k) k/\d<=n/\n-d<fu/\OkS s.T/\(0<=qa1 s.r.evs/\qa1 s.r.evs<=4611686018427387904)/\(s.r.evs.length<=d/\s.r.keys.length<=d)/\Sep w (fun _=>False) u [qel A s]) (fun⟨s,d,fu⟩=>n-d) (⟨⟨q,[],[]⟩,T⟩,k,l.length) rfl ?_ ?_
 ·exact⟨rfl,by omega,by omega,a2,⟨Int.le_refl 0,(by decide:(0:Int)<=4611686018427387904)⟩,⟨ir _,ir _⟩,h.take 1⟩
 intro p u a5 al a6;obtain⟨s,d,fu⟩:=p;obtain⟨hF,a7,am,hO,V,an,h⟩:=a5;obtain⟨fu,rfl⟩:∃f,fu=f+1:=⟨fu-1,by omega⟩
 refine qa<|ysr<|yp 3 [] (.j (d:Int) (n) .z)<|yo (yC (qml (some ⟨D,(if cap=((d:Int):Int).toNat then I else I+((d:Int):Int).toNat*1),none⟩) (n-((d:Int):Int).toNat) (cap-((d:Int):Int).toNat) (l.drop d) _ (rd_at1 (hr.ch h.ch fun _ _ h=>h) hl hle a7) (by rw[iG];omega) (by omega) (.inr ⟨_,_,rfl⟩) (qdx hby d) (by omega)) ?_);rintro _ u ⟨ao,ap,O,P,rfl,H,a8,a9⟩;refine⟨_,rfl,?_⟩;have h:=h.app0 a8 a9;have J:qat O:=by have:=qkb (qdx hby d);rw[H]at this;exact this
 have E:=qmg (l:=(l.drop d));have F:=qlb (l:=(l.drop d));rw[H]at E F;dsimp only at E F;rw[iG]at E F;refine yz 9<|ys<|ysr<|yq 3<|yw [52] (rE (P:Int) 0) (fun Q=>?_) fun Q=>?_
 ·have aq:=Q;refine yz 8<|yct<|yx 4<|q9 (rS (rB (qy (rB (yR2 [pX A,iX (d:Int)] .z ?_)))));refine⟨_,d,rfl,.inr ⟨A,s,?_,rfl,h.finN 0⟩⟩;rw[qh4 hN (by omega),show dec q=some T from x];dsimp only;rw[<-hF,qko H (.inl (by omega))]
 have ar:=Q;refine yq 5<|yo (yQ (h.takeS (gz0 h7) hT 0 1 hO V (by omega) J (by decide)) fun u h=>?_);refine yz 8<|yc (rN (rY (qbc s O).isSome)) (fun R=>?_) fun R=>?_
 ·have aa:=R;have C:qbc s O=none:=by simpa using aa
  rw[C]at h;refine yx 4<|q9 (rS (rB (qy (rB (yR2 [pX A,iX (d:Int)] .z ?_)))));refine⟨_,d,rfl,.inr ⟨A,s,?_,rfl,h.finN 0⟩⟩;rw[qh4 hN (by omega),show dec q=some T from x];dsimp only;rw[<-hF,qko H (.inr C)]
 have ab:=R;obtain⟨s2,C⟩:=jN.1 ab;rw[C]at h;have W:=take_inv C hO V;have au:=take_len C;refine yk<|q7<|yp 4 [] (.q6 ((d:Int)+(P:Int)) .z)<|yE (nB (fun a ha=>a6 (s2,d+P,fu) _ ⟨by rw[<-hF,readF_go H (by omega) C,k7],by omega,by omega,W.1,W.2,by omega,h.take 1⟩ (by show n-(d+_)<n-d;omega) a (ha.kp [0,5,8])))
theorem qnO {dec:List Int->Option TS}(a:Option Addr)(n cap:Nat)(l:List Int)(w:World)(hT:LT w)(h7:gTop<=w.heap.size)(hr:Rd w a (u8s l))(hl:l.length=n)(hle:n<=cap)(hz:(n=0/\cap=0)\/ ∃b o,a=some ⟨b,o,none⟩)(hby:qat l)(hn:n<=9000000)(hdk:DecW dec):CP 21 [.slice a n cap].toArray w fun e w'=> ∃v k x,e= .returned (.tuple #[v,iX ((k:Nat):Int),iX x])/\((qfA dec l=none/\v= .pointer none/\k=0/\x=1/\Ch (fun _=>False) w w')\/ ∃b s,qfA dec l=some (s,k)/\v=pX b/\x=0/\NewA (qel b s) w w'):=by
 have h:=Sep.nil w;refine yA Tryz.func21 rfl<|yx 3<|ysr<|yq 1<|yo (yC (qqo a n cap l _ hT h7 hr hl hle hz hby hn hdk) ?_);rintro _ u ⟨vr,kr,rfl,d⟩;refine⟨_,rfl,?_⟩;rcases d with⟨c,rfl,rfl,f⟩|⟨b,s,c,rfl,g⟩
 ·have h:=h.same f;refine yz 7<|ys<|yx 2<|yct<|yx 3<|q9 (rS (yR2 [.pointer none,iX 0,iX 1] .z ?_));exact⟨_,0,1,rfl,.inl ⟨c,rfl,rfl,rfl,h.ch⟩⟩
 have h:=h.addN g;refine yz 7<|ys<|yx 2<|ycf<|yk<|yx 7<|q9 (yR2 [pX b,iX (kr:Int),iX 0] .z ?_);exact⟨_,kr,0,rfl,.inr ⟨b,s,c,rfl,rfl,h.finN 0⟩⟩
theorem qh9 {dec:List Int->Option TS}(a:Option Addr)(n cap:Nat)(l:List Int)(w:World)(hT:LT w)(h7:gTop<=w.heap.size)(hr:Rd w a (u8s l))(hl:l.length=n)(hle:n<=cap)(hz:(n=0/\cap=0)\/ ∃b o,a=some ⟨b,o,none⟩)(hby:qat l)(hn:n<=9000000)(hdk:DecW dec)(hB:∀s k,qfA dec l=some (s,k)->RcB s.r/\qat (qaK s.r true)):CP 19 [.slice a n cap].toArray w fun e w'=> ∃v x,e= .returned (.tuple #[v,iX x])/\((qc1 dec l=none/\v= .pointer none/\x=1/\Ch (fun _=>False) w w')\/ ∃b s,qc1 dec l=some s/\v=pX b/\x=0/\NewA (qel b s) w w'):=by
 have h:=Sep.nil w;refine yA Tryz.func19 rfl<|yx 2<|ysr<|yq 1<|yo (yC (qnO a n cap l _ hT h7 hr hl hle hz hby hn hdk) ?_);rintro _ u ⟨vr,kr,xr,rfl,E⟩;refine⟨_,rfl,?_⟩;rcases E with⟨c,rfl,rfl,rfl,F⟩|⟨b,s,c,rfl,rfl,G⟩
 ·have h:=h.same F;refine yz 9<|ys<|ys<|zD [9,10,12] h fun u h=>yd (uL 0 16) [] .z<|yDe (nS ?_);refine yct<|yx 2<|q9 (rS (yR2 [.pointer none,iX 1] .z ?_));exact⟨_,1,rfl,.inl ⟨by unfold qc1;rw[c],rfl,rfl,h.ch⟩⟩
 have h:=h.addN G;refine yz 9<|ys<|ys<|zD [9,10,12] h fun u h=>yd (uL 0 8) [] .z<|yv [20] (rL (kr:Int) (n:Int)) (fun f=>?_) fun f=>?_
 ·have S:=f;refine yd [8,11] [] .z<|qas 9 12 (by kernel_rfl) (by decide) ?_ ?_
  ·obtain⟨FS,g,j⟩:=h.at (i:=0) (A:=qel b s) rfl;obtain⟨sa,sn,sc,eo,ec,ko,kc,kx,hR⟩:=qq8 g j;have hW:=hB _ _ c;refine qav 9 _ (by kernel_rfl) rfl (yC (qdI b _ hR hW.1) ?_);rintro _ u ⟨y,m,B,rfl,H⟩;refine⟨_,rfl,?_⟩;have h:=h.join H;have C:(qaK s.r true).length=m:=by have:=h.len1 1;rwa[hZ]at this
   refine q8<|qas 10 12 (by kernel_rfl) (by decide) ?_ ?_
   ·refine qav 10 _ (by kernel_rfl) rfl (qE (y.map at0) m B (qaK s.r true) (some 23) (by kernel_rfl) (h.ownRd' 1) C ?_);refine q8<|yK 12 (qE a n cap l (some 25) (by kernel_rfl) (hr.ch h.ch fun _ _ h=>h) hl ?_);refine q8<|yd (uL 13 3) [] .z<|yDe (nS ?_);refine yc (rN (rY (((qf (qaK s.r true))).toList==((qf l)).toList))) (fun p=>?_) fun p=>?_
    ·have I:=p;refine yx 2<|q9 (rS (yR2 [.pointer none,iX 1] .z ?_));have d:=qx hW.2 hby;exact⟨_,1,rfl,.inl ⟨by unfold qc1;rw[c];exact if_pos ⟨by omega,jl (d.symm.trans (iY.2 (by simpa using I)))⟩,rfl,rfl,h.ch⟩⟩
    have J:=p;refine yk<|yx 3<|q9 (yR2 [pX b,iX 0] .z ?_);exact⟨_,0,rfl,.inr ⟨b,s,by unfold qc1;rw[c];exact if_neg (fun hh=>hh.2 (iK ((qx hW.2 hby).symm.trans J))),rfl,rfl,h.finN 0⟩⟩
   refine qav 12 _ (by kernel_rfl) rfl (qE a n cap l (some 25) (by kernel_rfl) (hr.ch h.ch fun _ _ h=>h) hl ?_);refine q8<|yK 10 (qE (y.map at0) m B (qaK s.r true) (some 23) (by kernel_rfl) (h.ownRd' 1) C ?_);refine q8<|yd (uL 13 3) [] .z<|yDe (nS ?_);refine yc (rN (rY (((qf (qaK s.r true))).toList==((qf l)).toList))) (fun q=>?_) fun q=>?_
   ·have K:=q;refine yx 2<|q9 (rS (yR2 [.pointer none,iX 1] .z ?_));have d:=qx hW.2 hby;exact⟨_,1,rfl,.inl ⟨by unfold qc1;rw[c];exact if_pos ⟨by omega,jl (d.symm.trans (iY.2 (by simpa using K)))⟩,rfl,rfl,h.ch⟩⟩
   have L:=q;refine yk<|yx 3<|q9 (yR2 [pX b,iX 0] .z ?_);exact⟨_,0,rfl,.inr ⟨b,s,by unfold qc1;rw[c];exact if_neg (fun hh=>hh.2 (iK ((qx hW.2 hby).symm.trans L))),rfl,rfl,h.finN 0⟩⟩
  refine qav 12 _ (by kernel_rfl) rfl (qE a n cap l (some 25) (by kernel_rfl) (hr.ch h.ch fun _ _ h=>h) hl ?_);refine q8 ?_;obtain⟨FS,g,j⟩:=h.at (i:=0) (A:=qel b s) rfl;obtain⟨sa,sn,sc,eo,ec,ko,kc,kx,hR⟩:=qq8 g j;have hW:=hB _ _ c;refine yK 9 (yC (qdI b _ hR hW.1) ?_);rintro _ u ⟨M,D,N,rfl,O⟩;refine⟨_,rfl,?_⟩;have h:=h.join O;have P:(qaK s.r true).length=D:=by have:=h.len1 1;rwa[hZ]at this
  refine q8<|yK 10 (qE (M.map at0) D N (qaK s.r true) (some 23) (by kernel_rfl) (h.ownRd' 1) P ?_);refine q8<|yd (uL 13 3) [] .z<|yDe (nS ?_);refine yc (rN (rY (((qf (qaK s.r true))).toList==((qf l)).toList))) (fun t=>?_) fun t=>?_
  ·have Q:=t;refine yx 2<|q9 (rS (yR2 [.pointer none,iX 1] .z ?_));have d:=qx hW.2 hby;exact⟨_,1,rfl,.inl ⟨by unfold qc1;rw[c];exact if_pos ⟨by omega,jl (d.symm.trans (iY.2 (by simpa using Q)))⟩,rfl,rfl,h.ch⟩⟩
  have R:=t;refine yk<|yx 3<|q9 (yR2 [pX b,iX 0] .z ?_);exact⟨_,0,rfl,.inr ⟨b,s,by unfold qc1;rw[c];exact if_neg (fun hh=>hh.2 (iK ((qx hW.2 hby).symm.trans R))),rfl,rfl,h.finN 0⟩⟩
 have T:=f;refine yd (uL 8 8) [] .z<|yDe (nS ?_);refine ycf<|yk<|yx 3<|q9 (yR2 [pX b,iX 0] .z ?_);exact⟨_,0,rfl,.inr ⟨b,s,by unfold qc1;rw[c];exact if_neg (fun hh=>absurd hh.1 (by omega)),rfl,rfl,h.finN 0⟩⟩
abbrev tRec:TypeId:=34
abbrev qaz:TypeId:=69
def wrC (sb t:Nat):List Value:=[.pointer (some ⟨sb,0,none⟩),.string nmR,.pointer (some ⟨t,0,none⟩),.bool false]
def qqp (b sb:Nat)(s:Sc)(x:ScX):List Asn:=recL b s.r x (wrC sb x.t) qaz++[qay x.t s.T]
abbrev qdK (b sb:Nat)(s:Sc):Asn:=qgu (qqp b sb s)
section
variable {w0 w w':World}{F0:Nat->Prop}{l m:List Asn}{A A':Asn}{b sb:Nat}
theorem Sep.addP {p:Prop}(h:Sep w0 F0 w l)(hp:p):Sep w0 F0 w (l++[qdj p]):=
 h.add (A:=qdj p) (G:=fun _=>False) hp (fun _ h=>h.elim) (Ch.refl _ _)
theorem Sep.wrt {A0:Asn}{sa:Option Addr}{sn sc ec kc n m t:Nat}{eo ko:Option Nat}{start:List Int}{evs:List Ev}{keys:List Ky}{ks:List Value}{L:List (Option Addr×List Int)}{U:TS}(kx:Nat->Option Addr×Nat×Nat)
  (h:Sep w0 F0 w [A0,qbB b [.slice sa sn sc,.slice (eo.map at0) n ec,.slice (ko.map at0) m kc,.pointer (some ⟨sb,0,none⟩),.string nmR,.pointer (some ⟨t,0,none⟩),.bool false] qaz,qa8 tEv 5 eo n ec (evsV evs),qa8 qhf 2 ko m kc ks,roA L,qay t U])
  (hn:evs.length=n) (hm:keys.length=m) (hks:ks=qaC kx keys 0) (hL:L=roL ⟨sa,sn,sc,eo,ec,ko,kc,kx,t⟩ ⟨start,evs,keys⟩) (hok:ScOk ⟨sa,sn,sc,eo,ec,ko,kc,kx,t⟩ ⟨start,evs,keys⟩):Sep w0 F0 w [A0,qdK b sb ⟨⟨start,evs,keys⟩,U⟩]:=by
 subst hn hm hks hL;have h:=h.addP hok;exact Sep.pack (l:=[A0]) (L:=qqp b sb ⟨⟨start,evs,keys⟩,U⟩) ⟨sa,sn,sc,eo,ec,ko,kc,kx,t⟩ (h.ord [0,1,2,3,4,6,5]).eqv
theorem Sep.into (h:Sep w0 F0 w l)(i:Nat){F:Nat->Nat->Prop}(h1:∀(j:Nat) (A:Asn),l[j]? =some A->A.P w (F j))(h2:∀j k,j≠k-> ∀b,F j b-> ¬F k b)(h3:∀j b,F j b->(F0 b\/w0.heap.size<=b)/\b<w.heap.size)(hi:i<l.length)(h':Sep w (F i) w' (A'::m)):Sep w0 F0 w' (l.set i A'++m):=by
 obtain⟨G,n,f,g⟩:=h'.ex;have hz:=h'.ch.size;have t:=h.ch.size;have hG:∀q b,G q b->F i b\/w.heap.size<=b:=fun q b hb=>(g q b hb).1;refine Sep.of (h.ch.trans h'.ch fun b hb a=>(h3 i b a).1.elim id fun h=>by omega) (fun j b=>if j=i then G 0 b else if j<l.length then F j b else G (j-l.length+1) b) (fun j A e=>?_) (fun j k o b hb a=>?_) fun j b hb=>?_
 ·rcases iL j l.length with hj|hj
  ·rw[iw (by rw[iR];exact hj)]at e
   by_cases hji:j=i
   ·subst hji
    rw[jq hj]at e;obtain rfl:=ia e;exact Asn.to (n 0 _ rfl) fun b=>by rw[if_pos rfl]
   ·rw[jo (fun h=>hji h.symm)]at e
    exact Asn.to (A.ch (h1 j A e) h'.ch fun b hb a=>h2 j i hji b hb a) fun b=>by rw[if_neg hji,if_pos hj]
  ·rw[iF (by rw[iR];exact hj),iR]at e
   exact Asn.to (n (j-l.length+1) A e) fun b=>by rw[if_neg (by omega),if_neg (by omega)]
 ·have d:∀p q,p≠i->p<l.length->F p b->G q b->False:=fun p q hp u hf hg=>by
   rcases hG q b hg with c|c
   ·exact h2 p i hp b hf c
   ·have:=(h3 p b hf).2;omega
  by_cases hj:j=i
  ·rw[if_pos hj]at hb
   by_cases hk:k=i
   ·exact o (hj.trans hk.symm)
   ·rw[if_neg hk]at a
    split at a
    ·exact d k 0 hk (by assumption) a hb
    ·exact f 0 _ (by omega) b hb a
  ·rw[if_neg hj]at hb
   by_cases hk:k=i
   ·rw[if_pos hk]at a
    split at hb
    ·exact d j 0 hj (by assumption) hb a
    ·exact f 0 _ (by omega) b a hb
   ·rw[if_neg hk]at a
    split at hb
    ·rename_i r
     split at a
     ·exact h2 j k o b hb a
     ·exact d j _ hj r hb a
    ·rename_i r
     split at a
     ·rename_i s;exact d k _ hk s a hb
     ·exact f _ _ (by omega) b hb a
 ·have hg:∀q,G q b->(F0 b\/w0.heap.size<=b)/\b<w'.heap.size:=fun q hq=>⟨(g q b hq).1.elim (fun c=>(h3 i b c).1) fun c=> .inr (by omega),(g q b hq).2⟩
  split at hb
  ·exact hg _ hb
  ·split at hb
   ·have:=h3 j b hb;exact⟨this.1,by omega⟩
   ·exact hg _ hb
theorem RcRd.fresh {a:Option Addr}{n c:Nat}{start:List Int}{tl:List Value}{T:TypeId}(hb:Blk w b (.slice a n c:: .slice none 0 0:: .slice none 0 0::tl) T)(hr:Rd w a (u8s start))(hl:start.length=n)(hz:a=none->c=0):RcRd w b a n c none 0 none 0 (fun _=>(none,0,0)) ⟨start,[],[]⟩:=
 ⟨hb.c 0 rfl,hb.c 1 rfl,hb.c 2 rfl,hr,hl,hz,Rd.nil _ _,Rd.nil _ _,⟨ir _,ir _⟩,fun i hi=>absurd hi (j0 _)⟩
theorem qmB (start:List Int):∀i,(qk ⟨start,[],[]⟩ i).out=qK 83 start/\(qk ⟨start,[],[]⟩ i).k=0
 |0=>⟨rfl,rfl⟩
 |i+1=>by
  obtain⟨h1,h2⟩:=qmB start i
  have e:qbu ⟨start,[],[]⟩ i (qk ⟨start,[],[]⟩ i)=qk ⟨start,[],[]⟩ i:=if_neg fun h=>absurd h.1 (j0 _)
  have e2:evP ⟨start,[],[]⟩ i (qk ⟨start,[],[]⟩ i)=qk ⟨start,[],[]⟩ i:=if_neg (j0 _)
  show(evP _ i (qbu _ i _)).out=_/\(evP _ i (qbu _ i _)).k=0
  rw[e,e2];exact⟨h1,h2⟩
theorem rcb0 {start:List Int}(hb:qat start)(hl:start.length<=1000000):RcB ⟨start,[],[]⟩:=
 ⟨⟨hb,hl⟩,fun j hj=>absurd hj (j0 _),fun j hj=>absurd hj (j0 _),fun i=>by rw[(qmB start i).1];have:=qa2 83 start;omega⟩
theorem enc0 (start:List Int):qaK ⟨start,[],[]⟩ false=qK 83 start:=by
 unfold qaK;rw[if_neg jH];exact(qmB start _).1
theorem Sep.stAp0 {qu lf:Int}{o:Option Nat}{n c:Nat}{f:List Int}(h:Sep w0 F0 w l)(hg:Gz w0 F0)(i j:Nat)(hij:i≠j)(hi:l[i]? =some (qJ sb ⟨none,qu,false,lf,false⟩):=by rfl)(hj:l[j]? =some (qa8 tU8 1 o n c (u8s f)):=by rfl)(hq:(n:Int)<=qu:=by omega)(hm:n<=1000000000:=by omega)(hqb:qu<=4611686018427387904:=by omega):
  CP 69 [.pointer (some ⟨sb,0,none⟩),.string nmR,.slice (o.map at0) n c].toArray w fun e w'=>e= .returned (.int .i64 0)/\Sep w0 F0 w' (l.set i (qJ sb ⟨some ⟨f,0⟩,qu,false,lf,false⟩)):=by
 have hO:=h.own j hj;obtain⟨F,a,d,g⟩:=h.ex;refine(append_0 sb qu lf (F i) (o.map at0) n c f w (a i _ hi) (h.gz hg (g i)) hO.rd hO.len1' ?_ ?_ hq hm hqb).mono fun e w' ⟨he,hA,hc⟩=>⟨he,h.upd hi F a d g hA hc⟩
 ·intro e
  cases o with
  |none=>exact(hO.2.2.2.1 rfl).2
  |some q=>cases e
 ·intro ad ha hF
  cases o with
  |none=>cases ha
  |some q=>
   obtain rfl:=ia ha;exact d i j hij q hF ((a j _ hj).2 q rfl)
theorem Sep.stAp1 {q:Fl}{qu lf:Int}{o:Option Nat}{n c:Nat}{f:List Int}(h:Sep w0 F0 w l)(hg:Gz w0 F0)(i j:Nat)(hij:i≠j)(hi:l[i]? =some (qJ sb ⟨some q,qu,false,lf,false⟩):=by rfl)(hj:l[j]? =some (qa8 tU8 1 o n c (u8s f)):=by rfl)(hq:(q.data.length:Int)+(n:Int)<=qu:=by omega)(hz:q.data.length<=1000000000:=by omega)(hm:n<=1000000000:=by omega)(hqb:qu<=4611686018427387904:=by omega):
  CP 69 [.pointer (some ⟨sb,0,none⟩),.string nmR,.slice (o.map at0) n c].toArray w fun e w'=>e= .returned (.int .i64 0)/\Sep w0 F0 w' (l.set i (qJ sb ⟨some ⟨q.data++f,q.sure⟩,qu,false,lf,false⟩)):=by
 have hO:=h.own j hj;obtain⟨F,a,d,g⟩:=h.ex;refine(append_1 sb q qu lf (F i) (o.map at0) n c f w (a i _ hi) (h.gz hg (g i)) hO.rd hO.len1' ?_ ?_ hq hz hm hqb).mono fun e w' ⟨he,hA,hc⟩=>⟨he,h.upd hi F a d g hA hc⟩
 ·intro e
  cases o with
  |none=>exact(hO.2.2.2.1 rfl).2
  |some q=>cases e
 ·intro ad ha hF
  cases o with
  |none=>cases ha
  |some q=>
   obtain rfl:=ia ha;exact d i j hij q hF ((a j _ hj).2 q rfl)
def addS (s:Sc)(e:Ev):Sc:=⟨⟨s.r.start,s.r.evs++[e],if(s.r.evs.length+1)% 8=0 then s.r.keys++[⟨s.r.evs.length+1,qa0 (qae s.T e)⟩]else s.r.keys⟩,qae s.T e⟩
def qqq (s:Sc)(e:Ev):List Int:=if(s.r.evs.length+1)% 8=0 then qK 69 (evI (qa1 s.r.evs) e)++qK 75 (qR ⟨s.r.evs.length+1,qa0 (qae s.T e)⟩)else qK 69 (evI (qa1 s.r.evs) e)
abbrev logA (b sb:Nat)(q:Fl)(qu lf:Int)(s:Sc):Asn:=qgu fun _:Unit=>[qJ sb ⟨some q,qu,false,lf,false⟩,qdK b sb s]
end
theorem stRd0 {sb:Nat}{qu lf:Int}{ar dn:Bool}{F:Nat->Prop}{w:World}(h:(qJ sb ⟨none,qu,ar,lf,dn⟩).P w F)(hF:∀k,F k->k<w.heap.size):∃x,StRd w sb ⟨none,qu,ar,lf,dn⟩ x:=by
 obtain⟨x,h⟩:=Sep.startP h hF;exact⟨x,h.b 0,h.ob 1⟩
theorem lnew_any (t:Nat)(T:TS)(FT:Nat->Prop)(w:World)(hA0:(qay t T).P w FT)(hOk:OkS T):CP 23 [pX t].toArray w fun e w'=> ∃b o n c,e= .returned (pX b)/\Sep w (fun _=>False) w' [qa8 tU8 1 o n c (u8s (qa0 T)),qbB b [.slice (o.map at0) n c,nX,nX] tRec]:=by
 have g:∀b,FT b-> ¬(fun _:Nat=>False) b:=fun _ _ h=>h;have h:=Sep.nil w;refine yA Tryz.func23 rfl<|yx 1<|ysr<|yq 1<|yo (yC (qi6 (tmA.at ((qay t T).ch hA0 h.ch g)) hOk.dec.enc) ?_);rintro _ u ⟨d,a,f,rfl,i,_,j,k⟩;refine⟨_,rfl,?_⟩;have h:=h.fresh i j k;have m:(qa0 T).length=a:=by have:=h.len1 0;rwa[hZ]at this
 refine yq 3<|yo (zN [.slice (d.map at0) a f,nX,nX] 34 h fun u l h=>?_);refine yz 5<|q9 (yR1 (pX l) ?_);exact⟨_,d,a,f,rfl,(h.ord [0,1]).eqv⟩
theorem qi7 (sb t:Nat)(T:TS)(qu lf:Int)(FS FT:Nat->Prop)(w:World)(hS:(qJ sb ⟨none,qu,false,lf,false⟩).P w FS)(hg:Gz w FS)(hA0:(qay t T).P w FT)(hdis:∀b,FT b-> ¬FS b)(hOk:OkS T)(hq:(((qK 83 (qa0 T)).length:Nat):Int)<=qu)(hqb:qu<=4611686018427387904):CP 32 [pX sb,.string nmR,pX t].toArray w fun e w'=> ∃b,e= .returned (.tuple #[pX b,iX 0])/\Sep w FS w' [qJ sb ⟨some ⟨qK 83 (qa0 T),0⟩,qu,false,lf,false⟩,qdK b sb ⟨⟨qa0 T,[],[]⟩,T⟩]:=by
 have h:=Sep.one hS fun b hb=>(hg.lo b hb).2;have F:=qcl hOk.dec;have o:=qd5 hOk.dec;refine yA Tryz.func32 rfl<|yx 2<|ys<|ysr<|yq 2 ?_;obtain⟨FX,p,r⟩:=h.at (i:=0) (A:=qJ sb ⟨none,qu,false,lf,false⟩) rfl;obtain⟨x,s⟩:=stRd0 p r;refine yo (yQ (h.look (sread_0 sb x qu false lf false _ s rfl)) fun u h=>?_);refine yz 8<|yx 2<|ycf<|yk<|ys<|zDC [1,9] [0] h fun u h=>ydF [0,4,5,6] [] h.on (fun u h=> .z)<|yK 1 (yC (lnew_any t T FT _ ((qay t T).ch hA0 h.ch hdis) hOk) ?_);rintro _ u ⟨G,c,d,f,rfl,v⟩;refine⟨_,rfl,?_⟩;have h:=h.join v;have g:(qa0 T).length=d:=by have:=h.len1 1;rwa[hZ]at this
 refine zK (is:=[0,1,2]) h<|ydF [2,3] [] h.on (fun u h=>(.a (h.cs 2 0 3) .z))<|yH 7 (yC (qmz (tmA.at ((qay t T).ch hA0 h.ch hdis)) hOk.dec.enc) ?_);rintro _ u ⟨j,rfl,y,B⟩;refine⟨_,rfl,?_⟩;have h:=h.newTm y B;refine zHa h<|ydF [8] [] h.on (fun u h=> .z)<|yK 9 (zN [.slice (c.map at0) d f,nX,nX,pX sb,.string nmR,pX j,xF] 69 h fun u k h=>?_);refine q8<|yd [10] [] .z<|yDe (nS ?_);refine ys<|ysr<|yq 5<|yo (yC (qf7 k _ (RcRd.fresh (h.b 4) (h.ownRd' 1) g (by intro e;cases hq:c with|none=>exact((h.own 1).2.2.2.1 hq).2|some q=>rw[hq]at e;cases e)) (rcb0 o (by omega))) ?_);rintro _ u ⟨H,C,I,rfl,l⟩;refine⟨_,rfl,?_⟩;rw[enc0]at l;have h:=h.join l;have D:(qK 83 (qa0 T)).length=C:=by have:=h.len1 5;rwa[hZ]at this
 have J:=qa2 83 (qa0 T);have K:=D;refine yo (yQ (h.stAp0 hg 0 5 (by decide)) fun u h=>?_);refine yz 8<|yx 2<|ycf<|yk<|yx 3<|q9 (yR2 [pX k,iX 0] .z ?_);have E:=(show c.map at0=none->f=0 from(by intro e;cases hq:c with|none=>exact((h.own 1).2.2.2.1 hq).2|some q=>rw[hq]at e;cases e))
 have h:=h.own0 tEv 5;have h:=h.own0 qhf 2;have h:=h.ro0;have h:=h.toRo 8 1 (c.map at0) (qa0 T) fun hO=>⟨hO.rd,fun ad e=>by cases hq:c with|none=>rw[hq]at e;cases e|some q=>rw[hq]at e;obtain rfl:=zi e;rfl⟩
 exact⟨_,rfl,Sep.wrt (sa:=c.map at0) (sn:=d) (sc:=f) (eo:=none) (ec:=0) (ko:=none) (kc:=0) (t:=j) (n:=0) (m:=0) (start:=qa0 T) (evs:=[]) (keys:=[]) (fun _=>(none,0,0)) (h.ord [0,4,6,7,8,3]).eqv rfl rfl rfl rfl ⟨g,E,fun i hi=>absurd hi (j0 _),ir _,ir _⟩⟩
theorem qks {t k W H:Int}{d:ByteArray}(w:World)(hB:evB ⟨t,k,d,W,H⟩=true):CP 74 [.agg #[iX t,iX k,.string d,iX W,iX H]].toArray w (RQ (.bool true) w):=by
 have:=qd9 t k W H d w;rw[hB]at this;exact this
theorem qqr (b sb:Nat)(r:Rc)(U:TS)(da:List Int)(su qu lf:Int)(e:Ev)(F:Nat->Prop)(w:World)(hA:(logA b sb ⟨da,su⟩ qu lf ⟨r,U⟩).P w F)(hg:Gz w F)(hT:LT w)(hO:OkS U)(hB:evB e=true)(hl0:0<=qa1 r.evs)(hl1:qa1 r.evs<=e.time)(hen:r.evs.length+1<=10000000/\r.keys.length+1<=10000000)(hda:da.length<=900000000)(hq:(da.length:Int)+(((qqq ⟨r,U⟩ e).length:Nat):Int)<=qu)(hqb:qu<=4611686018427387904):CP 37 [pX b,.agg e.vals.toArray].toArray w fun x w'=>x= .returned (iX 0)/\qe5 (logA b sb ⟨da,su⟩ qu lf ⟨r,U⟩) (logA b sb ⟨da++qqq ⟨r,U⟩ e,su⟩ qu lf (addS ⟨r,U⟩ e)) F w w':=by
 obtain⟨_,h⟩:=Sep.startA hA hg;obtain⟨x,h⟩:=h.unpack 1;obtain⟨sa,sn,sc,eo,ec,ko,kc,kx,t⟩:=x;have h:=(h.ord [2,3,4,5,6,7,0]).eqv (m:=[qbB b [.slice sa sn sc,.slice (eo.map at0) r.evs.length ec,.slice (ko.map at0) r.keys.length kc,pX sb,.string nmR,pX t,xF] qaz,qa8 tEv 5 eo r.evs.length ec (evsV r.evs),qa8 qhf 2 ko r.keys.length kc (qaC kx r.keys 0),roA (roL ⟨sa,sn,sc,eo,ec,ko,kc,kx,t⟩ r),qdj (ScOk ⟨sa,sn,sc,eo,ec,ko,kc,kx,t⟩ r),qay t U,qJ sb ⟨some ⟨da,su⟩,qu,false,lf,false⟩]);have s:=h.pure 4;have a3:e.data.size<=1000000:=by have:=(qfV hB).1.2;omega
 have B:=hO.ap hB;have am:=qcl B.dec;have a4:=qd5 B.dec;have an:=qdF (fr:=qa1 r.evs) hB;have a5:=qdZ hB hl0;have a6:=qd8 ⟨r.evs.length+1,qa0 (qae U e)⟩;dsimp only at a6;refine yA Tryz.func37 rfl<|ysr<|yo (zN [iX e.time,iX e.kind,.string e.data,iX e.w,iX e.h] 66 h fun u ao h=>?_);refine yz 2<|ys<|qa<|ys<|zDC [1] [0,1,2,3,4,5,6,7] h fun u h=>ydF [0] [] h.on (fun u h=>(.a (h.cs 7 0 5) .z))<|yK 1 (yQ (h.look (qks _ hB)) fun u h=>?_);refine zK (is:=[0,1,2,3,4,5,6,7]) h<|ydF (uL 2 7) [] h.on (fun u h=>(.l (h.c 7 0) .z))<|yH 9 (yQ (h.look (qcV b _ (h.rc (x:=⟨sa,sn,sc,eo,ec,ko,kc,kx,t⟩) (r:=r) (tl:=wrC sb t) (T:=qaz)))) fun u h=>?_);refine zH h<|ydF (uL 10 3) [] h.on (fun u h=> .z)<|yDe (nS ?_);refine yc (rL e.time (qa1 r.evs)) (fun C=>?_) fun C=>?_
 ·have a7:=C;exact absurd a7 (by omega)
 have aq:=C;refine ysr<|yp 5 [] (.l (h.c 0 6) .z)<|ye<|ycf<|qo (nB (nS ?_));refine ysr<|yp 4 [] (.l (h.c 0 5) .z) ?_;obtain⟨FT,a8,_⟩:=h.at (i:=5) (A:=qay t U) rfl;refine yo (yC (qmz (tmA.at a8) hO.dec.enc) ?_);rintro _ u ⟨y,rfl,a9,aa⟩;refine⟨_,rfl,?_⟩;have h:=h.newTm a9 aa;refine yz 6<|ysr<|yp 2 [] (.a (h.cs 7 0 5) .z)<|yo (yQ (h.app hg hT 8 e hO.fine a3) fun u h=>?_);refine ye<|ys<|zDC [5,6] [0,1,2,3,4,5,6,7,8] h fun u h=>ydF [0,1,2,4] [] h.on (fun u h=>(.a (h.cs 7 0 5) .z))<|yH 3 (yQ (h.look (qcV b _ (h.rc (x:=⟨sa,sn,sc,eo,ec,ko,kc,kx,t⟩) (r:=r) (tl:=wrC sb t) (T:=qaz)))) fun u h=>?_);refine zH h<|yK 5 (yC (qf5 none 0 0 [] (qa1 r.evs) _ _ _ _ _ _ (Own.nil _ _ _) hB ⟨hl0,hl1⟩ (by omega)) ?_);rintro _ u ⟨H,I,ab,rfl,J,ar,ac⟩;refine⟨_,rfl,?_⟩;rw[iO]at J;have h:=h.app0 J ac;have K:(evI (qa1 r.evs) e).length=I:=by have:=h.len1 9;rwa[hZ]at this
 refine q8 ?_;have au:=qa2 69 (evI (qa1 r.evs) e);refine yK 6 (yC (qbd none 0 0 [] 69 (H.map at0) I ab (evI (qa1 r.evs) e) _ (Own.nil _ _ _) (h.ownRd' 9) K (by intro e;cases hq:H with|none=>exact((h.own 9).2.2.2.1 hq).2|some q=>rw[hq]at e;cases e) a5 (by decide) (fun _ _ e=>by cases e) (by have:=K;omega)) ?_);rintro _ u ⟨ae,D,af,rfl,M,av,ag⟩;refine⟨_,rfl,?_⟩;rw[iO]at M;have h:=h.app0 M ag;have N:(qK 69 (evI (qa1 r.evs) e)).length=D:=by have:=h.len1 10;rwa[hZ]at this
 refine q8<|yd [7] [] .z<|yDe (nS ?_);refine ysr<|yp 6 [] (.l (h.c 0 2) .z)<|ye<|ys<|ysr<|yp 8 [] (.l (h.c 0 1) (.q6 ((r.evs.length:Int)+1) .z))<|ye<|ysr ?_;refine yp 3 [] (.p (q:=0<=(((r.evs.length:Int)+1):Int)/\0<(8:Int)) (by constructor<;>omega) .z) ?_;refine ye<|yc (rE (((r.evs.length:Int)+1)% 8) 0) (fun E=>?_) fun E=>?_
 ·have aw:=E;refine ysr<|yq 2<|yo (yC (h.encT 8 B.dec.enc) ?_);rintro _ u ⟨d,f,g,rfl,h⟩;refine⟨_,rfl,?_⟩;have G:(qa0 (qae U e)).length=f:=by have:=h.len1 11;rwa[hZ]at this
  have O:d.map at0=none->g=0:=(by intro e;cases hq:d with|none=>exact((h.own 11).2.2.2.1 hq).2|some q=>rw[hq]at e;cases e)
  refine yq 4<|yo (zN [iX 0,nX] 51 h fun u ax h=>?_);refine yo (zs h 12 fun u h=>?_);refine ye<|ysr<|yp 2 [] (.a (h.cs 12 0 2) .z)<|yo (yC (qcW ⟨r.evs.length+1,qa0 (qae U e)⟩ (d.map at0) f g _ (h.ownRd' 11) G O (by have:=G;omega) (by dsimp only;omega)) ?_);rintro _ u ⟨Q,R,ah,rfl,ai⟩;refine⟨_,rfl,?_⟩;have h:=h.join ai;have S:(qR ⟨r.evs.length+1,qa0 (qae U e)⟩).length=R:=by have:=h.len1 13;rwa[hZ]at this
  have ay:=qa2 75 (qR ⟨r.evs.length+1,qa0 (qae U e)⟩);refine yo (yC (qbd ae D af (qK 69 (evI (qa1 r.evs) e)) 75 (Q.map at0) R ah (qR ⟨r.evs.length+1,qa0 (qae U e)⟩) _ (h.own 10) (h.ownRd' 13) S (by intro e;cases hq:Q with|none=>exact((h.own 13).2.2.2.1 hq).2|some q=>rw[hq]at e;cases e) (ql (qp (by dsimp only;omega)) a4) (by decide) (h.neA 10 13) (by have:=S;have:=N;omega)) ?_);rintro _ u ⟨az,V,aA,rfl,aj,aB,ak⟩;refine⟨_,rfl,?_⟩;have h:=h.appI 10 aj ak;have al:(qK 69 (evI (qa1 r.evs) e)++qK 75 (qR ⟨r.evs.length+1,qa0 (qae U e)⟩)).length=V:=by have:=h.len1 10;rwa[hZ]at this
  refine yz 5<|q7<|yp 2 [] (.a (h.cs 12 0 2) .z)<|yo (zB [iX ((r.evs.length:Int)+1),.slice (d.map at0) f g] 51 1 h fun u aC h=>?_);refine yo (zA 2 32 1 1 (r.keys.length+1) (qaC (kxS kx r.keys.length (d.map at0,f,g)) (r.keys++[⟨r.evs.length+1,qa0 (qae U e)⟩]) 0) h (Rd.all (h.b 14)) rfl (hz:=qfD (k:=⟨r.evs.length+1,qa0 (qae U e)⟩) (v:=(d.map at0,f,g))) fun u W X h aD=>?_);refine yz 5<|ys<|ys<|zD [9] h fun u h=>yd (uL 0 9) [] (.l (h.c 0 3) (.l (h.c 0 4) .z)) ?_;have Y:=al;rw[hJ]at Y;have j:(r.evs.length+1)% 8=0:=by omega
  have o:qqq ⟨r,U⟩ e=qK 69 (evI (qa1 r.evs) e)++qK 75 (qR ⟨r.evs.length+1,qa0 (qae U e)⟩):=if_pos j;rw[o,hJ]at hq;refine yK 9 (yQ (h.stAp1 hg 6 10 (by decide) (hq:=(show(da.length:Int)+(V:Int)<=qu by omega)) (hz:=(show da.length<=1000000000 by omega))) fun u h=>?_);refine q8<|yd [10] [] .z<|yDe (nS ?_);refine ycf<|yk<|ys<|zDC [11,15,19,23] [0,1,2,3,4,5,6,7,8,9,10,11,12,13,14] h fun u h=>ydF [0,1,2,3,4,5,6,7,8,9,12] [] h.on (fun u h=>(.l (h.c 0 1) (.a (h.cs 7 0 5) .z)))<|yH 10 (zB [iX e.time,iX e.kind,.string e.data,iX e.w,iX e.h] 66 1 h fun u aE h=>?_);refine zHa h<|yK 11 (zA 1 48 1 1 (r.evs.length+1) (evsV (r.evs++[e])) h (Rd.all (h.b 15)) rfl (hz:=(qd7 _ _).symm) fun u Z a0 h aF=>?_);refine q8<|yd [13,14] [] .z<|yK 15 (zs h 0 fun u h=>?_);refine q8<|yd (uL 16 3) [] .z<|yK 19 (zs h 0 fun u h=>?_);refine q8<|yd (uL 20 3) [] .z<|yK 23 (zs h 0 fun u h=>?_);refine q8<|yDe (nS ?_);refine yx 1<|q9 (yR1 (iX 0) ?_);have h:=h.nrm 0 [.slice sa sn sc,.slice (Z.map at0) (r.evs.length+1) a0,.slice (W.map at0) (r.keys.length+1) X,pX sb,.string nmR,pX y,xF];have h:=h.nrm 12 [iX ((r.evs.length:Int)+1),.slice (d.map at0) f g];rw[o,show addS ⟨r,U⟩ e=⟨⟨r.start,r.evs++[e],r.keys++[⟨r.evs.length+1,qa0 (qae U e)⟩]⟩,qae U e⟩ by unfold addS;rw[if_pos j]]
  have h:=h.toRo 3 11 (d.map at0) (qa0 (qae U e)) fun hO=>⟨hO.rd,fun ad e=>by cases hq:d with|none=>rw[hq]at e;cases e|some q=>rw[hq]at e;obtain rfl:=zi e;rfl⟩
  exact⟨rfl,(Sep.pack (l:=[]) (L:=fun _:Unit=>[qJ sb ⟨some ⟨da++_,su⟩,qu,false,lf,false⟩,qdK b sb _]) () (Sep.wrt (sa:=sa) (sn:=sn) (sc:=sc) (eo:=Z) (ec:=a0) (ko:=W) (kc:=X) (t:=y) (n:=r.evs.length+1) (m:=r.keys.length+1) (start:=r.start) (evs:=r.evs++[e]) (keys:=r.keys++[⟨r.evs.length+1,qa0 (qae U e)⟩]) (kxS kx r.keys.length (d.map at0,f,g)) (h.ord [6,0,1,2,3,8]).eqv (by simp) (by simp) rfl (qiY (x:=⟨sa,sn,sc,eo,ec,ko,kc,kx,t⟩) (r:=r) (k:=⟨r.evs.length+1,qa0 (qae U e)⟩) (v:=(d.map at0,f,g)) rfl rfl rfl rfl) (qh3 s ⟨rfl,rfl,rfl⟩ rfl rfl rfl G O ⟨by rw[hJ];exact hen.1,by rw[hJ];exact hen.2⟩))).finS hg 0⟩
 have aG:=E;refine yk<|ys<|ys<|zD [9] h fun u h=>yd (uL 0 9) [] (.l (h.c 0 3) (.l (h.c 0 4) .z)) ?_;have Y:=N;have j:¬(r.evs.length+1)% 8=0:=by omega
 have o:qqq ⟨r,U⟩ e=qK 69 (evI (qa1 r.evs) e):=if_neg j;rw[o]at hq;refine yK 9 (yQ (h.stAp1 hg 6 10 (by decide) (hq:=(show(da.length:Int)+(D:Int)<=qu by omega)) (hz:=(show da.length<=1000000000 by omega))) fun u h=>?_);refine q8<|yd [10] [] .z<|yDe (nS ?_);refine ycf<|yk<|ys<|zDC [11,15,19,23] [0,1,2,3,4,5,6,7,8,9,10] h fun u h=>ydF [0,1,2,3,4,5,6,7,8,9,12] [] h.on (fun u h=>(.l (h.c 0 1) (.a (h.cs 7 0 5) .z)))<|yH 10 (zB [iX e.time,iX e.kind,.string e.data,iX e.w,iX e.h] 66 1 h fun u aH h=>?_);refine zHa h<|yK 11 (zA 1 48 1 1 (r.evs.length+1) (evsV (r.evs++[e])) h (Rd.all (h.b 11)) rfl (hz:=(qd7 _ _).symm) fun u a1 a2 h aI=>?_);refine q8<|yd [13,14] [] .z<|yK 15 (zs h 0 fun u h=>?_);refine q8<|yd (uL 16 3) [] .z<|yK 19 (zs h 0 fun u h=>?_);refine q8<|yd (uL 20 3) [] .z<|yK 23 (zs h 0 fun u h=>?_);refine q8<|yDe (nS ?_);refine yx 1<|q9 (yR1 (iX 0) ?_);have h:=h.nrm 0 [.slice sa sn sc,.slice (a1.map at0) (r.evs.length+1) a2,.slice (ko.map at0) r.keys.length kc,pX sb,.string nmR,pX y,xF];rw[o,show addS ⟨r,U⟩ e=⟨⟨r.start,r.evs++[e],r.keys⟩,qae U e⟩ by unfold addS;rw[if_neg j]];exact⟨rfl,(Sep.pack (l:=[]) (L:=fun _:Unit=>[qJ sb ⟨some ⟨da++_,su⟩,qu,false,lf,false⟩,qdK b sb _]) () (Sep.wrt (sa:=sa) (sn:=sn) (sc:=sc) (eo:=a1) (ec:=a2) (ko:=ko) (kc:=kc) (t:=y) (n:=r.evs.length+1) (m:=r.keys.length) (start:=r.start) (evs:=r.evs++[e]) (keys:=r.keys) kx (h.ord [6,0,1,2,3,8]).eqv (by simp) rfl rfl rfl ⟨s.sl,s.sz,s.kl,by rw[hJ];exact hen.1,by have:=hen.2;dsimp only;omega⟩)).finS hg 0⟩
section
variable {P:Program}{N:Nat}{ops:Array Oper}{Q:Exit->Act->World->Prop}{f:Fr}{k:Nat}{K:Act->World->Prop}{w w0:World}{F0:Nat->Prop}{l:List Asn}
theorem zB0 (h:Sep w0 F0 w l)(hK:∀w' b,Sep w0 F0 w' (l++[qa8 tU8 1 (some b) 0 0 (u8s [])])-> ∀a',Has N (pushd (dO ops k) (.slice (some ⟨b,0,none⟩) 0 0) f) a'->K a' w')
  (hs:bs0At P N ops f k=some (tU8,dO ops k):=by kernel_rfl):∀a,Has N f a->wpOp P ops Q k K a w:=
 e_bs0 tU8 _ hs fun w' b e _ hB hc=>hK w' b (h.add (A:=qa8 tU8 1 (some b) 0 0 (u8s [])) (G:=fun k=>k=b) ⟨Own.blk hB rfl (ir _),fun g hg=>(ia hg).symm⟩ (fun k hk=>⟨by omega,by have:=hB.lt;omega⟩) hc)
end
theorem qlo (ad:Addr)(n cap:Nat)(l:List Int)(w:World)(hr:Rd w (some ad) (u8s l))(hl:l.length=n)(hn:n<=1000000000):CP 98 [.slice (some ad) n cap].toArray w fun e w'=> ∃o n' c',e= .returned (.slice (o.map at0) n' c')/\Sep w (fun _=>False) w' [qa8 tU8 1 o n' c' (u8s (l))]:=by
 have h:=Sep.nil w;refine yA Tryz.func98 rfl<|yx 1<|ys<|yx 2<|yc (rY ((some ad)).isNone) (fun a=>?_) fun a=>?_
 ·exact absurd a (by simp)
 refine yk<|ysr<|yo (zB0 h fun u d h=>?_);refine yq 2<|yo (zA (a2:=(some ad)) (ys:=u8s (l)) 0 1 n cap (0+n) (u8s (l)) h (hr.ch h.ch fun _ _ h=>h) (qN _) (hz:=(by rw[<-qaR,iO])) (hy:=(by rw[qU];omega)) (hn2:=(fun e=>by cases e)) fun u b c h f=>?_);have g:(l).length=(0+n):=by have:=h.len1 0;rwa[hZ]at this
 refine yz 4<|q9 (yR1 (.slice (b.map at0) (0+n) c) ?_);exact⟨_,_,_,rfl,(h.ord [0]).eqv⟩
theorem qlp (w:World):CP 98 [nX].toArray w (RQ (nX) w):=by
 have h:=Sep.nil w;refine yA Tryz.func98 rfl<|yx 1<|ys<|yx 2<|yct<|yx 1<|q9 (rS (yR1 (nX) ?_));exact⟨rfl,h.ch⟩
theorem qnP {a:Option Addr}{n cap:Nat}{l:List Int}(w:World)(hr:Rd w a (u8s l))(hl:l.length=n)(hz:a=none->cap=0)(hn:n<=1000000000):CP 98 [.slice a n cap].toArray w fun e w'=> ∃o n' c',e= .returned (.slice (o.map at0) n' c')/\Sep w (fun _=>False) w' [qa8 tU8 1 o n' c' (u8s (l))]:=by
 cases a with
 |some ad=>exact qlo ad n cap l w hr hl hn
 |none=>
  have b:=hr.1 rfl;obtain rfl:l=[]:=by simpa[u8s]using b
  obtain rfl:0=n:=hl;rw[hz rfl];refine(qlp w).mono ?_;rintro e w' ⟨rfl,hc⟩;refine⟨none,0,0,rfl,?_⟩;have h:=(Sep.nil w).same hc;exact h.app0 (o':=none) (n':=0) (cap':=0) (zs:=u8s []) (Own.nil _ _ _) ⟨Ch.refl _ _,.inl rfl⟩
theorem Own.nz0 {w:World}{e:TypeId}{sz n cap:Nat}{o:Option Nat}{xs:List Value}(h:Own w e sz o n cap xs)(ho:o.map at0=none):cap=0:=by
 cases o with
 |none=>exact(h.2.2.2.1 rfl).2
 |some b=>cases ho
theorem qqs (b:Nat)(x:StX)(q:Fl)(qu:Int)(ar:Bool)(lf:Int)(dn:Bool)(w:World)(hS:StRd w b ⟨some q,qu,ar,lf,dn⟩ x)(hd:dn=false)(hz:q.data.length<=1000000000):CP 67 [pX b,.string nmR].toArray w fun e w'=> ∃o n' c',e= .returned (.tuple #[.slice (o.map at0) n' c',iX 0])/\Sep w (fun _=>False) w' [qa8 tU8 1 o n' c' (u8s q.data)]:=by
 subst hd;obtain⟨hb,hm,hf,hO⟩:=hS;have d:=hO.len1;rw[qU]at d;have h:=Sep.nil w;refine yA Tryz.func67 rfl<|yx 2<|ysr<|yq 2<|yo (yQ (h.look (find_1 b x q qu ar lf false _ ⟨(hb.ch h.ch id),(hm.ch h.ch id),(hf.ch h.ch id),(hO.ch h.ch iZ)⟩ rfl)) fun u h=>?_);refine yz 8<|ys<|yx 2<|ycf<|yk<|ysr<|yp 4 [] (.l (qg h.ch (hf.c 0) id) .z)<|yo (yC (qnP _ ((hO.ch h.ch iZ).rd) (by omega) (fun e=>hO.nz0 e) (by omega)) ?_);rintro _ u ⟨f,a,g,rfl,i⟩;refine⟨_,rfl,?_⟩;have h:=h.join i;have j:(q.data).length=a:=by have:=h.len1 0;rwa[hZ]at this
 refine yz 7<|q9 (yR2 [.slice (f.map at0) a g,iX 0] .z ?_);exact⟨_,_,_,rfl,(h.ord [0]).eqv⟩
theorem ssync_1 (b:Nat)(q:Fl)(qu lf:Int)(F:Nat->Prop)(w:World)(hA:(qJ b ⟨some q,qu,false,lf,false⟩).P w F)(hg:Gz w F)(hz:q.data.length<=1000000000):CP 79 [pX b,.string nmR].toArray w fun e w'=>e= .returned (iX 0)/\qe5 (qJ b ⟨some q,qu,false,lf,false⟩) (qJ b ⟨some ⟨q.data,(q.data.length:Int)⟩,qu,false,lf,false⟩) F w w':=by
 obtain⟨⟨xm,xf,xo,xn,xc⟩,h⟩:=Sep.startA hA hg;have a:=h.len1 3;rw[qU]at a;subst a;have d:q.data.length<=xc:=(h.own 3).2.1;refine yA Tryz.func79 rfl<|yx 1<|ysr<|yq 2<|yo (yQ (h.look (find_1 b ⟨xm,xf,xo,q.data.length,xc⟩ q qu false lf false _ ⟨h.b 0,h.ob 1,h.b 2,h.own 3⟩ rfl)) fun u h=>?_);refine yz 8<|ys<|yx 2<|yct<|q7<|yq 1<|yo (yQ (h.look (qiS b xm qu lf _ (h.b 0))) fun u h=>?_);refine yz 3<|ys<|yx 2<|yct<|q7<|yp 8 [] (.l (h.c 2 0) .z)<|yo (zs h 2 fun u h=>?_);refine ye<|yx 2<|q9 (yR1 (iX 0) ?_);exact⟨rfl,(Sep.pack (l:=[]) (L:=qe9 b ⟨some ⟨q.data,(q.data.length:Int)⟩,qu,false,lf,false⟩) ⟨xm,xf,xo,q.data.length,xc⟩ (h.ord [0,1,2,3]).eqv).finS hg 0⟩
theorem Own.take {w:World}{e:TypeId}{o:Option Nat}{n cap k:Nat}{l:List Int}(h:Own w e 1 o n cap (u8s l))(hk:k<=l.length):Own w e 1 o k cap (u8s (l.take k)):=by
 have hn:l.length=n:=by have:=h.len1;rwa[qU]at this
 refine⟨by rw[qU,im];omega,iq (hn▸hk) h.2.1,h.2.2.1,fun e=>?_,fun g e=>?_⟩
 ·have:=h.2.2.2.1 e;omega
 obtain⟨r,hr,hb⟩:=h.2.2.2.2 g e;have:=h.2.1;refine⟨u8s (l.drop k)++r,by rw[hJ,qU,iG,hr];omega,?_⟩;rw[<-ie,<-qaR,iV];exact hb
def wrD (sb t:Nat):List Value:=[.pointer (some ⟨sb,0,none⟩),.string nmR,.pointer (some ⟨t,0,none⟩),.bool true]
def qda (b sb:Nat)(s:Sc)(x:ScX):List Asn:=recL b s.r x (wrD sb x.t) qaz++[qay x.t s.T]
abbrev qdL (b sb:Nat)(s:Sc):Asn:=qgu (qda b sb s)
abbrev qhp (b sb:Nat)(q:Fl)(qu lf:Int)(s:Sc):Asn:=qgu fun _:Unit=>[qJ sb ⟨some q,qu,false,lf,false⟩,qdL b sb s]
section
variable {w0 w w':World}{F0:Nat->Prop}{l:List Asn}{sb:Nat}{q:Fl}{qu lf:Int}
theorem Sep.stSy (h:Sep w0 F0 w l)(hg:Gz w0 F0)(i:Nat)(hi:l[i]? =some (qJ sb ⟨some q,qu,false,lf,false⟩):=by rfl)(hz:q.data.length<=1000000000:=by omega):
  CP 79 [.pointer (some ⟨sb,0,none⟩),.string nmR].toArray w fun e w'=>e= .returned (.int .i64 0)/\Sep w0 F0 w' (l.set i (qJ sb ⟨some ⟨q.data,(q.data.length:Int)⟩,qu,false,lf,false⟩)):=
 h.stepA hg i (fun F hA hF=>ssync_1 sb q qu lf F w hA hF hz) hi
end
def kRen:Go.Shelf.Ren:=⟨fun|7=>73|10=>107|8=>105|11=>120|n=>n,fun|0=>0|3=>146|4=>4|23=>130|24=>63|26=>9|27=>143|28=>144|33=>183|n=>n,fun n=>n⟩
theorem kL7:SlLaysZ.n7 Tryz.prog kRen where
 mixed:=by kernel_rfl
 f7:=⟨Tryz.f73.name,by kernel_rfl,Tryz.func73.trans (congrArg some (by kernel_rfl))⟩
 f10:=⟨Tryz.f107.name,by kernel_rfl,Tryz.func107.trans (congrArg some (by kernel_rfl))⟩
 t0:=Tryz.underlying0
 a0:=Tryz.isAgg0
 z0:=Tryz.sizeOf0
 v0:=Tryz.zeroValue0
 t4:=Tryz.underlying4
 a4:=Tryz.isAgg4
 z4:=Tryz.sizeOf4
 v4:=Tryz.zeroValue4
 t23:=Tryz.underlying130
 a23:=Tryz.isAgg130
 z23:=Tryz.sizeOf130
 v23:=Tryz.zeroValue130
 t26:=Tryz.underlying9
 a26:=Tryz.isAgg9
 z26:=Tryz.sizeOf9
 v26:=Tryz.zeroValue9
 t27:=Tryz.underlying143
 a27:=Tryz.isAgg143
 z27:=Tryz.sizeOf143
 v27:=Tryz.zeroValue143
 t28:=Tryz.underlying144
 a28:=Tryz.isAgg144
 z28:=Tryz.sizeOf144
 v28:=Tryz.zeroValue144
 t33:=Tryz.underlying183
 a33:=Tryz.isAgg183
 z33:=Tryz.sizeOf183
 v33:=Tryz.zeroValue183
theorem kL8:SlLaysZ.n8 Tryz.prog kRen where
 mixed:=by kernel_rfl
 f8:=⟨Tryz.f105.name,by kernel_rfl,Tryz.func105.trans (congrArg some (by kernel_rfl))⟩
 f11:=⟨Tryz.f120.name,by kernel_rfl,Tryz.func120.trans (congrArg some (by kernel_rfl))⟩
 t0:=Tryz.underlying0
 a0:=Tryz.isAgg0
 z0:=Tryz.sizeOf0
 v0:=Tryz.zeroValue0
 t24:=Tryz.underlying63
 a24:=Tryz.isAgg63
 z24:=Tryz.sizeOf63
 v24:=Tryz.zeroValue63
 t26:=Tryz.underlying9
 a26:=Tryz.isAgg9
 z26:=Tryz.sizeOf9
 v26:=Tryz.zeroValue9
 t28:=Tryz.underlying144
 a28:=Tryz.isAgg144
 z28:=Tryz.sizeOf144
 v28:=Tryz.zeroValue144
 i26:=by kernel_rfl
abbrev tMapF:TypeId:=130
abbrev qhq:TypeId:=9
theorem qqt (m:Option Nat)(w:World):CP 73 [.map m].toArray w fun e w'=> ∃b,e= .returned (.func (.func 107) #[] #[.pointer (some ⟨b,0,none⟩)])/\Sep w (fun _=>False) w' [qbB b [.map m] tMapF]:=by
 refine((callsIn_wide (n:=5)).1 (AnyZ.keys_in kL7 Fence.wide 5 trivial rfl m w)).mono ?_;rintro e w' ⟨rfl,rfl⟩;refine⟨_,rfl,(Sep.nil w).alloc (b:=w.heap.size) (Blk.new w [.map m] tMapF) rfl (Ch.alloc _ _ _)⟩
def rdN (_:Value):Option (DataW Unit×List MemPlace):=some (.nil,[])
theorem rdF (f:Nat):Go.WideElems.rd Tryz.prog qhq rdN {key:= .string nmR,val:= .pointer (some ⟨f,0,none⟩),born:=0}=some (.string [114],.nil):=by
 unfold Go.WideElems.rd;rw[show keyOf Tryz.prog qhq (.string nmR)=some (.string [114]) by kernel_rfl];rfl
theorem ownsF {w:World}{m f:Nat}(h:Ob w m (.map (oneE f).toArray 1)):w.ownsMap Tryz.prog qhq rdN m 1 (.map [(.string [114],.nil)]):=by
 refine⟨(oneE f).toArray,1,h,⟨show 1<=maxLen by decide,?_,?_⟩,iE 1,?_⟩
 ·exact⟨fun x hx=>by obtain rfl:=iA.1 hx;exact Nat.zero_lt_one,by simp[oneE],by simp[oneE]⟩
 ·intro x hx
  obtain rfl:=iA.1 hx;exact⟨_,rdF f⟩
 ·show _=DataW.map ([Go.WideElems.rg Tryz.prog qhq rdN {key:= .string nmR,val:= .pointer (some ⟨f,0,none⟩),born:=0}].foldr DataW.insert [])
  rw[show Go.WideElems.rg Tryz.prog qhq rdN {key:= .string nmR,val:= .pointer (some ⟨f,0,none⟩),born:=0}=_ from by unfold Go.WideElems.rg;rw[rdF f]];rfl
theorem qkt {b m f:Nat}{w:World}(hb:Blk w b [.map (some m)] tMapF)(hm:Ob w m (.map (oneE f).toArray 1)):CP 105 [.func (.func 107) #[] #[.pointer (some ⟨b,0,none⟩)]].toArray w fun e w'=> ∃g c,e= .returned (.slice (some ⟨g,0,none⟩) 1 c)/\Sep w (fun _=>False) w' [qa8 qhq 1 (some g) 1 c [.string nmR]]:=by
 have h:SeqGives Fence.wide 2 Tryz.prog 107 #[.pointer (some ⟨b,0,none⟩)] encStr (fun ss=>ss.Perm [[114]]) 1 w:=
  AnyZ.keys_gives (ρ:=kRen) {kL7 with} Fence.wide _ trivial rfl (by omega) b m 1 _ _ hb.lt (by rw[hb.cell];rfl) (ownsF hm)
 refine((callsIn_wide (n:=4)).1 (AnyZ.collect_in kL8 Fence.wide 4 trivial trivial rfl (by omega) 107 #[.pointer (some ⟨b,0,none⟩)] trivial (enters_of Tryz.func107 (by kernel_rfl) rfl) _ 1 (by decide) (by decide) w h)).mono ?_;rintro e w' ⟨v,ss,rfl,hS,i,u,hB⟩;obtain rfl:ss=[[114]]:=List.perm_singleton.1 hS;obtain⟨hl,⟨_,j⟩|⟨g,d,a,rfl,hg,l,o,p,q,r⟩⟩:=i
 ·cases j
 have s:Ch (fun _=>False) w w':=⟨hB.os,hB.tape,hB.output,hB.size,fun k hk _=>hB.block k hk⟩
 refine⟨g,d,rfl,(Sep.nil w).fresh (o':=some g) (show Own w' qhq 1 (some g) 1 d [.string nmR]from⟨rfl,o,p,(fun e=>by cases e),fun g' e=>⟨a.toList.drop 1,?_,?_⟩⟩) (fun g' e=>by cases e;exact hg) s⟩
 ·rw[iG,jZ,q];omega
 ·cases e
  have:[Value.string nmR]++a.toList.drop 1=a.toList:=by
   have t:a.toList.take 1=[Value.string nmR]:=r;rw[<-t,iV]
  show w'.heap[g]? =some (.cells ([Value.string nmR]++a.toList.drop 1).toArray _ _);rw[this];exact l
def l8:ByteArray:=⟨((List.range 256).map fun i=>if i=0 then 0 else(i.log2+1).toUInt8).toArray⟩
theorem l8_1:l8.size=256/\bt l8 (IntKind.wrap .u8 1)=1/\IntKind.wrap .u8 1=1:=by decide+kernel
theorem qnQ (b sb:Nat)(r:Rc)(U:TS)(da:List Int)(su qu lf:Int)(F:Nat->Prop)(w:World)(hA:(qhp b sb ⟨da,su⟩ qu lf ⟨r,U⟩).P w F)(hg:Gz w F)(hz:da.length<=1000000000):CP 42 [pX b].toArray w fun e w'=>e= .returned (iX 0)/\qe5 (qhp b sb ⟨da,su⟩ qu lf ⟨r,U⟩) (qhp b sb ⟨da,(da.length:Int)⟩ qu lf ⟨r,U⟩) F w w':=by
 obtain⟨_,h⟩:=Sep.startA hA hg;obtain⟨x,h⟩:=h.unpack 1;obtain⟨sa,sn,sc,eo,ec,ko,kc,kx,t⟩:=x;have h:=(h.ord [2,3,4,5,6,7,0]).eqv (m:=[qbB b [.slice sa sn sc,.slice (eo.map at0) r.evs.length ec,.slice (ko.map at0) r.keys.length kc,pX sb,.string nmR,pX t,.bool true] qaz,qa8 tEv 5 eo r.evs.length ec (evsV r.evs),qa8 qhf 2 ko r.keys.length kc (qaC kx r.keys 0),roA (roL ⟨sa,sn,sc,eo,ec,ko,kc,kx,t⟩ r),qdj (ScOk ⟨sa,sn,sc,eo,ec,ko,kc,kx,t⟩ r),qay t U,qJ sb ⟨some ⟨da,su⟩,qu,false,lf,false⟩]);refine yA Tryz.func42 rfl<|yx 1<|ys<|zD [8] h fun u h=>yd (uL 0 8) [] (.l (h.c 0 3) (.l (h.c 0 4) .z))<|yK 8 (yQ (h.stSy hg 6 (hz:=(by dsimp only;omega))) fun u h=>?_);refine q8<|yd [9] [] .z<|yDe (nS ?_);refine q9 (yR1 (iX 0) ?_);exact⟨rfl,(Sep.pack (l:=[]) (L:=fun _:Unit=>[qJ sb ⟨some ⟨da,(da.length:Int)⟩,qu,false,lf,false⟩,qdL b sb ⟨r,U⟩]) () (Sep.pack (l:=[qJ sb ⟨some ⟨da,(da.length:Int)⟩,qu,false,lf,false⟩]) (L:=qda b sb ⟨r,U⟩) ⟨sa,sn,sc,eo,ec,ko,kc,kx,t⟩ (h.ord [6,0,1,2,3,4,5]).eqv)).finS hg 0⟩
theorem qlq (b sb:Nat)(r:Rc)(U:TS)(da:List Int)(su qu lf:Int)(F:Nat->Prop)(w:World)(hA:(logA b sb ⟨da,su⟩ qu lf ⟨r,U⟩).P w F)(hg:Gz w F)(hW:RcB r)(hda:da.length<=900000000)(hil:(qaG r (((qh r).out.length:Nat):Int) (qh r).pos).length<=90000000)(hq:(da.length:Int)+(((qaG r (((qh r).out.length:Nat):Int) (qh r).pos).length:Nat):Int)<=qu)(hqb:qu<=4611686018427387904):CP 39 [pX b].toArray w fun e w'=>e= .returned (iX 0)/\qe5 (logA b sb ⟨da,su⟩ qu lf ⟨r,U⟩) (qhp b sb ⟨da++qaG r (((qh r).out.length:Nat):Int) (qh r).pos,(((da++qaG r (((qh r).out.length:Nat):Int) (qh r).pos).length:Nat):Int)⟩ qu lf ⟨r,U⟩) F w w':=by
 obtain⟨_,h⟩:=Sep.startA hA hg;obtain⟨x,h⟩:=h.unpack 1;obtain⟨sa,sn,sc,eo,ec,ko,kc,kx,t⟩:=x;have h:=(h.ord [2,3,4,5,6,7,0]).eqv (m:=[qbB b [.slice sa sn sc,.slice (eo.map at0) r.evs.length ec,.slice (ko.map at0) r.keys.length kc,pX sb,.string nmR,pX t,xF] qaz,qa8 tEv 5 eo r.evs.length ec (evsV r.evs),qa8 qhf 2 ko r.keys.length kc (qaC kx r.keys 0),roA (roL ⟨sa,sn,sc,eo,ec,ko,kc,kx,t⟩ r),qdj (ScOk ⟨sa,sn,sc,eo,ec,ko,kc,kx,t⟩ r),qay t U,qJ sb ⟨some ⟨da,su⟩,qu,false,lf,false⟩]);refine yA Tryz.func39 rfl<|yx 1<|ys<|ysr<|yp 4 [] (.l (h.c 0 6) .z)<|ye<|ycf<|yk<|ysr<|yq 3<|yo (zs h 0 fun u h=>?_);refine ye<|ysr<|yq 3 ?_;have h:=h.nrm 0 [.slice sa sn sc,.slice (eo.map at0) r.evs.length ec,.slice (ko.map at0) r.keys.length kc,pX sb,.string nmR,pX t,.bool true];refine yo (yC (qfE b _ (h.rc (x:=⟨sa,sn,sc,eo,ec,ko,kc,kx,t⟩) (r:=r) (tl:=wrD sb t) (T:=qaz)) hW) ?_);rintro _ u ⟨B,a,C,i,g,n,rfl,o⟩;refine⟨_,rfl,?_⟩;have h:=h.join o;have p:((qh r).out).length=a:=by have:=h.len1 7;rwa[hZ]at this
 have q:(qh r).pos.length=g:=by have:=h.len1 8;rwa[hZ]at this
 have D:(qh r).pos.length=(qh r).k/\_:=pl_k r (r.evs.length+1);have s:(qh r).k<=r.keys.length/\ ∀j,j<(qh r).k->_:=pl_a r (r.evs.length+1) (iE _);have v:=pl_p hW (r.evs.length+1);have E:(qh r).out.length<=100000000:=hW.ln (r.evs.length+1);refine yz 9<|ys<|ys<|zDC [15] [0,1,2,3,4,5,6,7,8] h fun u h=>ydF (uL 0 14) [] h.on (fun u h=>(.l (h.c 0 3) (.l (h.c 0 4) .z))) ?_;have y:((a:Int))=(((qh r).out.length:Nat):Int):=by rw[p]
 refine yH 14 (yC (qi5 b _ (h.rc (x:=⟨sa,sn,sc,eo,ec,ko,kc,kx,t⟩) (r:=r) (tl:=wrD sb t) (T:=qaz)) hW (a:Int) i g n _ (h.ownRd' 8) q (by omega) v (by omega) (fun j hj=>⟨s.2 j (by omega),trivial⟩)) ?_);rintro _ u ⟨G,d,H,rfl,A⟩;refine⟨_,rfl,?_⟩;have h:=h.join A;have I:(qaG r (a:Int) (qh r).pos).length=d:=by have:=h.len1 9;rwa[hZ]at this
 refine zHa h ?_;rw[y]at h;have J:(qaG r (((qh r).out.length:Nat):Int) (qh r).pos).length=d:=by have:=h.len1 9;rwa[hZ]at this
 refine yK 15 (yQ (h.stAp1 hg 6 9 (by decide) (f:=qaG r (((qh r).out.length:Nat):Int) (qh r).pos) (hq:=(show(da.length:Int)+(d:Int)<=qu by omega)) (hz:=(show da.length<=1000000000 by omega)) (hm:=by have:=qf4 r (((qh r).out.length:Nat):Int) (qh r).pos;omega)) fun u h=>?_);refine q8<|yd [16] [] .z<|yDe (nS ?_);refine yx 2<|ycf<|yk<|ysr<|yq 1 ?_;have h:=Sep.pack (l:=[]) (L:=fun _:Unit=>[qJ sb ⟨some ⟨da++qaG r (((qh r).out.length:Nat):Int) (qh r).pos,su⟩,qu,false,lf,false⟩,qdL b sb ⟨r,U⟩]) () (Sep.pack (l:=[qJ sb ⟨some ⟨da++qaG r (((qh r).out.length:Nat):Int) (qh r).pos,su⟩,qu,false,lf,false⟩]) (L:=qda b sb ⟨r,U⟩) ⟨sa,sn,sc,eo,ec,ko,kc,kx,t⟩ (h.ord [6,0,1,2,3,4,5]).eqv);refine yo (yQ (h.stepA hg 0 (fun F hA hF=>qnQ b sb r U (da++qaG r (((qh r).out.length:Nat):Int) (qh r).pos) su qu lf F _ hA hF (by rw[hJ];omega))) fun u h=>?_);refine yz 3<|q9 (yR1 (iX 0) ?_);exact⟨rfl,h.finS hg 0⟩
theorem wdead_D (b sb:Nat)(r:Rc)(U:TS)(da:List Int)(su qu lf:Int)(F:Nat->Prop)(w:World)(hA:(qhp b sb ⟨da,su⟩ qu lf ⟨r,U⟩).P w F)(hg:Gz w F):CP 36 [pX b].toArray w fun e w'=>e= .returned (.bool true)/\qe5 (qhp b sb ⟨da,su⟩ qu lf ⟨r,U⟩) (qhp b sb ⟨da,su⟩ qu lf ⟨r,U⟩) F w w':=by
 obtain⟨_,h⟩:=Sep.startA hA hg;obtain⟨x,h⟩:=h.unpack 1;obtain⟨sa,sn,sc,eo,ec,ko,kc,kx,t⟩:=x;have h:=(h.ord [2,3,4,5,6,7,0]).eqv (m:=[qbB b [.slice sa sn sc,.slice (eo.map at0) r.evs.length ec,.slice (ko.map at0) r.keys.length kc,pX sb,.string nmR,pX t,.bool true] qaz,qa8 tEv 5 eo r.evs.length ec (evsV r.evs),qa8 qhf 2 ko r.keys.length kc (qaC kx r.keys 0),roA (roL ⟨sa,sn,sc,eo,ec,ko,kc,kx,t⟩ r),qdj (ScOk ⟨sa,sn,sc,eo,ec,ko,kc,kx,t⟩ r),qay t U,qJ sb ⟨some ⟨da,su⟩,qu,false,lf,false⟩]);refine yA Tryz.func36 rfl<|yx 1<|ysr<|yp 5 [] (.l (h.c 0 6) .z)<|ye<|q9 (yR1 (.bool true) ?_);exact⟨rfl,(Sep.pack (l:=[]) (L:=fun _:Unit=>[qJ sb ⟨some ⟨da,su⟩,qu,false,lf,false⟩,qdL b sb ⟨r,U⟩]) () (Sep.pack (l:=[qJ sb ⟨some ⟨da,su⟩,qu,false,lf,false⟩]) (L:=qda b sb ⟨r,U⟩) ⟨sa,sn,sc,eo,ec,ko,kc,kx,t⟩ (h.ord [6,0,1,2,3,4,5]).eqv)).finS hg 0⟩
theorem qku (b sb:Nat)(r:Rc)(U:TS)(da:List Int)(su qu lf:Int)(F:Nat->Prop)(w:World)(hA:(qhp b sb ⟨da,su⟩ qu lf ⟨r,U⟩).P w F)(hg:Gz w F):CP 39 [pX b].toArray w fun e w'=>e= .returned (iX 5)/\qe5 (qhp b sb ⟨da,su⟩ qu lf ⟨r,U⟩) (qhp b sb ⟨da,su⟩ qu lf ⟨r,U⟩) F w w':=by
 obtain⟨_,h⟩:=Sep.startA hA hg;obtain⟨x,h⟩:=h.unpack 1;obtain⟨sa,sn,sc,eo,ec,ko,kc,kx,t⟩:=x;have h:=(h.ord [2,3,4,5,6,7,0]).eqv (m:=[qbB b [.slice sa sn sc,.slice (eo.map at0) r.evs.length ec,.slice (ko.map at0) r.keys.length kc,pX sb,.string nmR,pX t,.bool true] qaz,qa8 tEv 5 eo r.evs.length ec (evsV r.evs),qa8 qhf 2 ko r.keys.length kc (qaC kx r.keys 0),roA (roL ⟨sa,sn,sc,eo,ec,ko,kc,kx,t⟩ r),qdj (ScOk ⟨sa,sn,sc,eo,ec,ko,kc,kx,t⟩ r),qay t U,qJ sb ⟨some ⟨da,su⟩,qu,false,lf,false⟩]);refine yA Tryz.func39 rfl<|yx 1<|ys<|ysr<|yp 4 [] (.l (h.c 0 6) .z)<|ye<|yct<|yx 1<|q9 (rS (yR1 (iX 5) ?_));exact⟨rfl,(Sep.pack (l:=[]) (L:=fun _:Unit=>[qJ sb ⟨some ⟨da,su⟩,qu,false,lf,false⟩,qdL b sb ⟨r,U⟩]) () (Sep.pack (l:=[qJ sb ⟨some ⟨da,su⟩,qu,false,lf,false⟩]) (L:=qda b sb ⟨r,U⟩) ⟨sa,sn,sc,eo,ec,ko,kc,kx,t⟩ (h.ord [6,0,1,2,3,4,5]).eqv)).finS hg 0⟩
theorem qqu {t k W H:Int}{d:ByteArray}(w:World)(hB:evB ⟨t,k,d,W,H⟩=false):CP 74 [.agg #[iX t,iX k,.string d,iX W,iX H]].toArray w (RQ (xF) w):=by
 have:=qd9 t k W H d w;rw[hB]at this;exact this
theorem qqv (b sb:Nat)(r:Rc)(U:TS)(da:List Int)(su qu lf:Int)(F:Nat->Prop)(w:World)(hA:(qhp b sb ⟨da,su⟩ qu lf ⟨r,U⟩).P w F)(hg:Gz w F)(e:Ev)(hB:evB e=true)(hl1:qa1 r.evs<=e.time):CP 37 [pX b,.agg e.vals.toArray].toArray w fun x w'=>x= .returned (iX 5)/\qe5 (qhp b sb ⟨da,su⟩ qu lf ⟨r,U⟩) (qhp b sb ⟨da,su⟩ qu lf ⟨r,U⟩) F w w':=by
 obtain⟨_,h⟩:=Sep.startA hA hg;obtain⟨x,h⟩:=h.unpack 1;obtain⟨sa,sn,sc,eo,ec,ko,kc,kx,t⟩:=x;have h:=(h.ord [2,3,4,5,6,7,0]).eqv (m:=[qbB b [.slice sa sn sc,.slice (eo.map at0) r.evs.length ec,.slice (ko.map at0) r.keys.length kc,pX sb,.string nmR,pX t,.bool true] qaz,qa8 tEv 5 eo r.evs.length ec (evsV r.evs),qa8 qhf 2 ko r.keys.length kc (qaC kx r.keys 0),roA (roL ⟨sa,sn,sc,eo,ec,ko,kc,kx,t⟩ r),qdj (ScOk ⟨sa,sn,sc,eo,ec,ko,kc,kx,t⟩ r),qay t U,qJ sb ⟨some ⟨da,su⟩,qu,false,lf,false⟩]);refine yA Tryz.func37 rfl<|ysr<|yo (zN [iX e.time,iX e.kind,.string e.data,iX e.w,iX e.h] 66 h fun u g h=>?_);refine yz 2<|ys<|qa<|ys<|zDC [1] [0,1,2,3,4,5,6,7] h fun u h=>ydF [0] [] h.on (fun u h=>(.a (h.cs 7 0 5) .z))<|yK 1 (yQ (h.look (qks _ hB)) fun u h=>?_);refine zK (is:=[0,1,2,3,4,5,6,7]) h<|ydF (uL 2 7) [] h.on (fun u h=>(.l (h.c 7 0) .z))<|yH 9 (yQ (h.look (qcV b _ (h.rc (x:=⟨sa,sn,sc,eo,ec,ko,kc,kx,t⟩) (r:=r) (tl:=wrD sb t) (T:=qaz)))) fun u h=>?_);refine zH h<|ydF (uL 10 3) [] h.on (fun u h=> .z)<|yDe (nS ?_);refine yc (rL e.time (qa1 r.evs)) (fun d=>?_) fun d=>?_
 ·have f:=d;exact absurd f (by omega)
 have i:=d;refine ysr<|yp 5 [] (.l (h.c 0 6) .z)<|ye<|yct<|yx 1<|q9 (rB (rS (yR1 (iX 5) ?_)));have h:=h.take 7;exact⟨rfl,(Sep.pack (l:=[]) (L:=fun _:Unit=>[qJ sb ⟨some ⟨da,su⟩,qu,false,lf,false⟩,qdL b sb ⟨r,U⟩]) () (Sep.pack (l:=[qJ sb ⟨some ⟨da,su⟩,qu,false,lf,false⟩]) (L:=qda b sb ⟨r,U⟩) ⟨sa,sn,sc,eo,ec,ko,kc,kx,t⟩ (h.ord [6,0,1,2,3,4,5]).eqv)).finS hg 0⟩
theorem addD_arg (b sb:Nat)(r:Rc)(U:TS)(da:List Int)(su qu lf:Int)(F:Nat->Prop)(w:World)(hA:(qhp b sb ⟨da,su⟩ qu lf ⟨r,U⟩).P w F)(hg:Gz w F)(e:Ev)(hB:evB e=false):CP 37 [pX b,.agg e.vals.toArray].toArray w fun x w'=>x= .returned (iX 3)/\qe5 (qhp b sb ⟨da,su⟩ qu lf ⟨r,U⟩) (qhp b sb ⟨da,su⟩ qu lf ⟨r,U⟩) F w w':=by
 obtain⟨_,h⟩:=Sep.startA hA hg;obtain⟨x,h⟩:=h.unpack 1;obtain⟨sa,sn,sc,eo,ec,ko,kc,kx,t⟩:=x;have h:=(h.ord [2,3,4,5,6,7,0]).eqv (m:=[qbB b [.slice sa sn sc,.slice (eo.map at0) r.evs.length ec,.slice (ko.map at0) r.keys.length kc,pX sb,.string nmR,pX t,.bool true] qaz,qa8 tEv 5 eo r.evs.length ec (evsV r.evs),qa8 qhf 2 ko r.keys.length kc (qaC kx r.keys 0),roA (roL ⟨sa,sn,sc,eo,ec,ko,kc,kx,t⟩ r),qdj (ScOk ⟨sa,sn,sc,eo,ec,ko,kc,kx,t⟩ r),qay t U,qJ sb ⟨some ⟨da,su⟩,qu,false,lf,false⟩]);refine yA Tryz.func37 rfl<|ysr<|yo (zN [iX e.time,iX e.kind,.string e.data,iX e.w,iX e.h] 66 h fun u c h=>?_);refine yz 2<|ys<|qa<|ys<|zDC [1] [0,1,2,3,4,5,6,7] h fun u h=>ydF [0] [] h.on (fun u h=>(.a (h.cs 7 0 5) .z))<|yK 1 (yQ (h.look (qqu _ hB)) fun u h=>?_);refine zK (is:=[0,1,2,3,4,5,6,7]) h<|ydF (uL 2 11) [] h.on (fun u h=> .z)<|yDe (nS ?_);refine yct<|yx 1<|q9 (rB (rS (yR1 (iX 3) ?_)));have h:=h.take 7;exact⟨rfl,(Sep.pack (l:=[]) (L:=fun _:Unit=>[qJ sb ⟨some ⟨da,su⟩,qu,false,lf,false⟩,qdL b sb ⟨r,U⟩]) () (Sep.pack (l:=[qJ sb ⟨some ⟨da,su⟩,qu,false,lf,false⟩]) (L:=qda b sb ⟨r,U⟩) ⟨sa,sn,sc,eo,ec,ko,kc,kx,t⟩ (h.ord [6,0,1,2,3,4,5]).eqv)).finS hg 0⟩
theorem stRd1 {sb:Nat}{q:Fl}{qu lf:Int}{ar dn:Bool}{F:Nat->Prop}{w:World}(h:(qJ sb ⟨some q,qu,ar,lf,dn⟩).P w F)(hF:∀k,F k->k<w.heap.size):∃x,StRd w sb ⟨some q,qu,ar,lf,dn⟩ x:=by
 obtain⟨x,h⟩:=Sep.startP h hF;exact⟨x,h.b 0,h.ob 1,h.b 2,h.own 3⟩
theorem StRd.ch {sb:Nat}{q:Fl}{qu lf:Int}{ar dn:Bool}{x:StX}{w w':World}(h:StRd w sb ⟨some q,qu,ar,lf,dn⟩ x)(hc:Ch (fun _=>False) w w'):StRd w' sb ⟨some q,qu,ar,lf,dn⟩ x:=
  ⟨h.1.ch hc id,h.2.1.ch hc id,h.2.2.1.ch hc id,h.2.2.2.ch hc iZ⟩
theorem qkv (sb t:Nat)(x:StX)(q:Fl)(qu lf:Int)(w:World)(hS:StRd w sb ⟨some q,qu,false,lf,false⟩ x)(hz:q.data.length<=1000000000):CP 32 [pX sb,.string nmR,pX t].toArray w (RQ (.tuple #[.pointer none,iX 6]) w):=by
 have h:=Sep.nil w;refine yA Tryz.func32 rfl<|yx 2<|ys<|ysr<|yq 2<|yo (yC (qqs sb x q qu false lf false _ (hS.ch h.ch) rfl hz) ?_);rintro _ u ⟨c,a,d,rfl,b⟩;refine⟨_,rfl,?_⟩;have h:=h.join b;have f:(q.data).length=a:=by have:=h.len1 0;rwa[hZ]at this
 refine yz 8<|yx 2<|yct<|yx 2<|q9 (rS (yR2 [.pointer none,iX 6] .z ?_));exact⟨rfl,h.ch⟩
theorem len64_1 (w:World):CP 155 [.int .u64 1].toArray w (RQ (iX 1) w):=by
 obtain⟨b,a,c⟩:=l8_1;have h:=Sep.nil w;refine yA Tryz.func155 rfl<|yx 1<|ys<|yx 2<|ycf<|yk<|ys<|yx 2<|ycf<|yk<|ys<|yx 2<|ycf<|yk<|ysr<|yp 7 [] (.i (IntKind.wrap .u8 1) ((l8).size) (.q6 (bt l8 (IntKind.wrap .u8 1)) (.q6 (0+(bt l8 (IntKind.wrap .u8 1))) .z)))<|ye<|q9 (yR1 (iX (0+(bt l8 (IntKind.wrap .u8 1)))) ?_);exact⟨by rw[a];rfl,h.ch⟩
theorem len_1 (w:World):CP 122 [.int .u64 1].toArray w (RQ (iX 1) w):=by
 have h:=Sep.nil w;refine yA Tryz.func122 rfl<|yx 1<|ys<|ycf<|yk<|ysr<|yq 1<|yo (yQ (h.look (len64_1 _)) fun u h=>?_);refine yz 3<|q9 (yR1 (iX 1) ?_);exact⟨rfl,h.ch⟩
theorem isort_1 (g c:Nat)(w:World):CP 145 [.slice (some ⟨g,0,none⟩) 1 c,iX 0,iX 1].toArray w (RQ (.tuple #[]) w):=by
 have h:=Sep.nil w;refine yA Tryz.func145 rfl<|ysr<|yp 3 [] (.q6 1 .z)<|ye<|qa<|yU 1 (yU1 ?_);refine ys<|yx 3<|ycf<|qm (eS (qd (qb (qW ?_))));exact⟨rfl,h.ch⟩
theorem psort_1 (g c:Nat)(w:World):CP 121 [.slice (some ⟨g,0,none⟩) 1 c,iX 0,iX 1,iX 1].toArray w (RQ (.tuple #[]) w):=by
 have h:=Sep.nil w;refine yA Tryz.func121 rfl<|yx 1<|yx 1<|qa<|yU 2 (yU1 ?_);refine qa<|ysr<|yp 4 [] (.q6 1 .z)<|ye<|ys<|yx 2<|yct<|ysr<|yq 3<|yo (yQ (h.look (isort_1 g c _)) fun u h=>?_);refine ye<|q9 (rS (rB (qy (rB (yR0 ?_)))));exact⟨rfl,h.ch⟩
theorem sort_1 (g c:Nat)(w:World):CP 106 [.slice (some ⟨g,0,none⟩) 1 c].toArray w (RQ (.tuple #[]) w):=by
 have h:=Sep.nil w;refine yA Tryz.func106 rfl<|yx 3<|q7<|yq 4<|yo (yQ (h.look (len_1 _)) fun u h=>?_);refine yo (yQ (h.look (psort_1 g c _)) fun u h=>?_);refine yE (qW ?_);exact⟨rfl,h.ch⟩
theorem sorted_1 {b m f:Nat}{w:World}(hb:Blk w b [.map (some m)] tMapF)(hm:Ob w m (.map (oneE f).toArray 1)):CP 72 [.func (.func 107) #[] #[pX b]].toArray w fun e w'=> ∃g c,e= .returned (.slice (some ⟨g,0,none⟩) 1 c)/\Sep w (fun _=>False) w' [qa8 qhq 1 (some g) 1 c [.string nmR]]:=by
 have h:=Sep.nil w;refine yA Tryz.func72 rfl<|yx 1<|ysr<|yq 1<|yo (yC (qkt (hb.ch h.ch id) (hm.ch h.ch id)) ?_);rintro _ u ⟨a,d,rfl,i⟩;refine⟨_,rfl,?_⟩;have h:=h.join i;refine yz 3<|ysr<|yq 1<|yo (yQ (h.look (sort_1 a d _)) fun u h=>?_);refine ye<|yx 2<|q9 (yR1 (.slice (some ⟨a,0,none⟩) 1 d) ?_);exact⟨_,_,rfl,(h.ord [0]).eqv⟩
theorem names_1 (b:Nat)(x:StX)(q:Fl)(qu:Int)(ar:Bool)(lf:Int)(dn:Bool)(w:World)(hS:StRd w b ⟨some q,qu,ar,lf,dn⟩ x):CP 34 [pX b].toArray w fun e w'=> ∃g c,e= .returned (.slice (some ⟨g,0,none⟩) 1 c)/\Sep w (fun _=>False) w' [qa8 qhq 1 (some g) 1 c [.string nmR]]:=by
 obtain⟨hb,hm,hf,hO⟩:=hS;have a:=hO.len1;rw[qU]at a;have h:=Sep.nil w;refine yA Tryz.func34 rfl<|yx 1<|ysr<|yp 4 [] (.l (qg h.ch (hb.c 0) id) .z)<|yo (yC (qqt (some x.m) _) ?_);rintro _ u ⟨k,rfl,d⟩;refine⟨_,rfl,?_⟩;have h:=h.join d;refine yo (yC (sorted_1 (h.b 0) (hm.ch h.ch id)) ?_);rintro _ u ⟨f,i,rfl,j⟩;refine⟨_,rfl,?_⟩;have h:=h.join j;refine yz 7<|q9 (yR1 (.slice (some ⟨f,0,none⟩) 1 i) ?_);exact⟨_,_,rfl,(h.ord [1]).eqv⟩
theorem crash_0 (b:Nat)(q:Fl)(qu lf:Int)(ar dn:Bool)(F:Nat->Prop)(w:World)(hA:(qJ b ⟨some q,qu,ar,lf,dn⟩).P w F)(hg:Gz w F)(hz:q.data.length<=1000000000)(hsu:0<=q.sure/\q.sure<=(q.data.length:Int)):CP 40 [pX b,nX].toArray w fun e w'=>e= .returned (.tuple #[])/\qe5 (qJ b ⟨some q,qu,ar,lf,dn⟩) (qJ b ⟨some ⟨q.data.take (q.sure+min 0 ((q.data.length:Int)-q.sure)).toNat,(((q.sure+min 0 ((q.data.length:Int)-q.sure)).toNat:Nat):Int)⟩,qu,false,lf,false⟩) F w w':=by
 obtain⟨⟨xm,xf,xo,xn,xc⟩,h⟩:=Sep.startA hA hg;have a:=h.len1 3;rw[qU]at a;subst a;have p:q.data.length<=xc:=(h.own 3).2.1;refine yA Tryz.func40 rfl<|ys<|ysr<|yq 1<|yo (yC (names_1 b ⟨xm,xf,xo,q.data.length,xc⟩ q qu ar lf dn _ ⟨h.b 0,h.ob 1,h.b 2,h.own 3⟩) ?_);rintro _ u ⟨d,f,rfl,g⟩;refine⟨_,rfl,?_⟩;have h:=h.join g;refine yz 4<|qa<|yU 2 (yU1 ?_);refine yx 1<|ys<|yct<|yk<|ys<|qa<|ysr<|yp 5 [] (.i 0 (1) (.l (qcg (h.brd 4) 0 _ rfl) .z))<|ye<|ysr<|yp 5 [] (.l (h.c 0 0) .z)<|yo (zLk (h.ob 1) (pX xf) ?_);refine yz 8<|ys<|yx 4<|ycf<|yk<|ys<|zD [25] h fun u h=>yd (uL 0 25) [] (.l (h.c 2 0) (.l (h.c 2 1) (.l (h.c 2 0) (.l (h.c 2 1) (.q6 ((q.data.length:Int)-q.sure) (.q6 (q.sure+(min (0:Int) ((q.data.length:Int)-q.sure))) (.j (q.sure+(min (0:Int) ((q.data.length:Int)-q.sure))) (xc) .z)))))))<|yK 25 (zs h 2 fun u h=>?_);refine q8<|yDe (nS ?_);refine q7<|yp 8 [] (.l (h.c 2 0) .z)<|yo (zs h 2 fun u h=>?_);refine yE (nB (nS ?_));refine q7<|yp 2 [] (.q6 1 .z)<|yE (nU (yU1 ?_));refine yx 1<|ys<|ycf<|qm (eS (qd (qb (nS ?_))));refine q7<|yq 4<|yo (zs h 0 fun u h=>?_);refine yq 7<|yo (zs h 0 fun u h=>?_);refine yE (qW ?_);have h:=h.nrm 0 [.map (some xm),iX qu,xF,iX lf,xF];have h:=h.nrm 2 [.slice (xo.map at0) ((q.sure+(min (0:Int) ((q.data.length:Int)-q.sure))):Int).toNat xc,iX ((((q.sure+(min (0:Int) ((q.data.length:Int)-q.sure))):Int).toNat:Nat):Int)]
 obtain⟨k,n⟩:∃k,k=(q.sure+min 0 ((q.data.length:Int)-q.sure)).toNat:=⟨_,rfl⟩
 rw[<-n];have h:=h.eqv (m:=[qbB b [.map (some xm),iX qu,xF,iX lf,xF] qi1,qkG xm (.map (oneE xf).toArray 1),qbB xf [.slice (xo.map at0) ((q.sure+(min (0:Int) ((q.data.length:Int)-q.sure))):Int).toNat xc,iX ((((q.sure+(min (0:Int) ((q.data.length:Int)-q.sure))):Int).toNat:Nat):Int)] tOne,qa8 tU8 1 xo q.data.length xc (u8s q.data),qa8 qhq 1 (some d) 1 f [.string nmR]]) (by kernel_rfl);have o:k<=q.data.length:=by omega
 rw[show((q.sure+(min (0:Int) ((q.data.length:Int)-q.sure))):Int).toNat=k from by omega]at h;obtain⟨_,h⟩:=h.ref (B:=fun _:Unit=>qa8 tU8 1 xo k xc (u8s (q.data.take k))) (i:=3) rfl fun _ hA=>⟨(),hA.1.take o,hA.2⟩
 exact⟨rfl,(Sep.pack (l:=[]) (L:=qe9 b ⟨some ⟨q.data.take k,((k:Nat):Int)⟩,qu,false,lf,false⟩) ⟨xm,xf,xo,k,xc⟩ (h.ord [0,1,2,3]).eqv).finS hg 0⟩
theorem qqw {x m:Int}{k:Nat}(hm:(BitVec.ofInt 64 m).toNat=k)(hk:k<=9223372036854775807):0<=qe .and .i64 x m/\qe .and .i64 x m<=k:=by
 have h:(BitVec.ofInt 64 x&&&BitVec.ofInt 64 m).toNat<=k:=by
  rw[BitVec.toNat_and,hm];exact Nat.and_le_right
 unfold qe;show 0<=IntKind.wrap .i64 (((BitVec.ofInt 64 x&&&BitVec.ofInt 64 m).toNat:Nat):Int)/\IntKind.wrap .i64 (((BitVec.ofInt 64 x&&&BitVec.ofInt 64 m).toNat:Nat):Int)<=k;generalize (BitVec.ofInt 64 x&&&BitVec.ofInt 64 m).toNat=n at h;rw[qbm (k:= .i64) (n:=(n:Int)) (show-9223372036854775808<=(n:Int)/\(n:Int)<=9223372036854775807 by omega)];omega
theorem andT (x:Int):0<=qe .and .i64 x 65535/\qe .and .i64 x 65535<=65535:=qqw (by decide) (by decide)
theorem andK (x:Int):0<=qe .and .i64 x 3/\qe .and .i64 x 3<=3:=qqw (by decide) (by decide)
theorem andS (x:Int):0<=qe .and .i64 x 127/\qe .and .i64 x 127<=127:=qqw (by decide) (by decide)
def cut4 (s:ByteArray):ByteArray:=if 400<(s.size:Int)then s.extract 0 400 else s
def qcG (t:Int)(e:Ev):Ev:=if qe .and .i64 e.kind 3=2 then⟨t+qe .and .i64 e.time 65535,qe .and .i64 e.kind 3,E0,qe .and .i64 e.w 127+1,qe .and .i64 e.h 127+1⟩else⟨t+qe .and .i64 e.time 65535,qe .and .i64 e.kind 3,cut4 e.data,0,0⟩
def qb8 (l:List Ev):Nat->List Ev
 |0=>[]
 |k+1=>qb8 l k++[qcG (qa1 (qb8 l k)) (ge l k)]
abbrev tameL (l:List Ev):List Ev:=qb8 l l.length
theorem qcY (l:List Ev)(e:Ev):qa1 (l++[e])=e.time:=by
 unfold qa1 qQ;rw[if_neg (by simp),hJ,jv,kC,qh0]
theorem qkw (l:List Ev):∀k,(qb8 l k).length=k
 |0=>rfl
 |k+1=>by rw[qb8,hJ,qkw l k];rfl
theorem qce (t:Int)(e:Ev):(qcG t e).time=t+qe .and .i64 e.time 65535:=by unfold qcG;split<;>rfl
theorem qqx (s:ByteArray):(cut4 s).size<=400:=by
 unfold cut4;split
 ·rw[k8];omega
 ·omega
theorem tame1_ok {t:Int}{e:Ev}(h0:0<=t)(h1:t<=1000000000000):evB (qcG t e)=true:=by
 have hT:=andT e.time;have hK:=andK e.kind;have hW:=andS e.w;have hH:=andS e.h;have hc:=qqx e.data;unfold qcG;split
 ·rename_i hk
  unfold evB;dsimp only;rw[if_neg (by have:E0.size=0:=rfl;omega),if_pos hk];exact j1 ⟨rfl,by omega,by omega,by omega,by omega⟩
 ·rename_i hk
  unfold evB;dsimp only;rw[if_neg (by omega),if_neg hk,if_pos (by omega)];exact j1 ⟨rfl,rfl⟩
structure EvsOk (l:List Ev):Prop where
 evb:∀i,i<l.length->evB (ge l i)=true
 tm:∀i,i<l.length->0<=qQ l i/\qQ l i<=(ge l i).time
theorem qkx {l:List Ev}(m:List Ev){i:Nat}(h:i<=l.length):qQ (l++m) i=qQ l i:=by
 unfold qQ;split
 ·rfl
 ·rw[qi2 m (by omega)]
theorem EvsOk.nil:EvsOk []:=⟨fun i h=>absurd h (j0 i),fun i h=>absurd h (j0 i)⟩
theorem EvsOk.last {l:List Ev}(h:EvsOk l):0<=qa1 l/\qa1 l<=4611686018427387904:=by
 unfold qa1 qQ;split
 ·decide
 ·have:=(qfV (h.evb (l.length-1) (by omega))).1.1
  omega
theorem EvsOk.snoc {l:List Ev}{e:Ev}(h:EvsOk l)(he:evB e=true)(hl:qa1 l<=e.time):EvsOk (l++[e]):=by
 have a:=h.last;refine⟨fun i hi=>?_,fun i hi=>?_⟩
 ·rw[hJ,jv]at hi
  rcases iL i l.length with hl|hl
  ·rw[qi2 _ hl];exact h.evb i hl
  ·obtain rfl:i=l.length:=by omega
   rw[qh0];exact he
 ·rw[hJ,jv]at hi
  rw[qkx _ (by omega)];rcases iL i l.length with hl|hl
  ·rw[qi2 _ hl];exact h.tm i hl
  ·obtain rfl:i=l.length:=by omega
   rw[qh0];exact⟨a.1,by assumption⟩
theorem EvsOk.take {l:List Ev}(h:EvsOk l)(n:Nat):EvsOk (l.take n):=by
 have a:l=l.take n++l.drop n:=(iV n l).symm;refine⟨fun i hi=>?_,fun i hi=>?_⟩
 ·have hi':i<l.length:=by rw[im]at hi;omega
  have:=h.evb i hi';rw[a,qi2 _ hi]at this;exact this
 ·have hi':i<l.length:=by rw[im]at hi;omega
  have:=h.tm i hi';rw[a,qi2 _ hi,qkx _ (by omega)]at this;exact this
theorem qj2 (l:List Ev):∀k,k<=1000->EvsOk (qb8 l k)/\qa1 (qb8 l k)<=65535*k
 |0,_=>⟨.nil,by show qQ [] 0<=_;simp[qQ]⟩
 |k+1,hk=>by
  obtain⟨h1,h2⟩:=qj2 l k (by omega)
  have h0:=h1.last
  have hT:=andT (ge l k).time
  refine⟨h1.snoc (tame1_ok h0.1 (by omega)) (by rw[qce];omega),?_⟩
  rw[qb8,qcY,qce]
  omega
def qdb (T0:TS)(l:List Ev)(n:Nat):List Ky:=(List.range (n/8)).map fun j=>⟨8*(j+1),qa0 (qaS T0 l (8*(j+1)))⟩
def qcr (T0:TS)(l:List Ev)(k:Nat):Rc:=⟨qa0 T0,l.take k,qdb T0 l k⟩
theorem qlr (T0:TS)(l:List Ev){k:Nat}(h:k<l.length):addS ⟨qcr T0 l k,qaS T0 l k⟩ (ge l k)=⟨qcr T0 l (k+1),qaS T0 l (k+1)⟩:=by
 have hl:(l.take k).length=k:=by rw[im];omega
 unfold addS qcr;dsimp only;rw[hl,qq4 h];congr 2;unfold qdb;split
 ·rename_i a
  rw[show(k+1)/8=k/8+1 by omega,List.range_succ,iI];simp only[k5,List.map_nil];rw[show 8*(k/8+1)=k+1 by omega];rfl
 ·rw[show(k+1)/8=k/8 by omega]
theorem qbX (T0:TS)(l:List Ev)(k:Nat):(qdb T0 l k).length=k/8:=by simp[qdb]
theorem qe2 (T0:TS)(l:List Ev){k j:Nat}(h:j<k/8):gky (qdb T0 l k) j=⟨8*(j+1),qa0 (qaS T0 l (8*(j+1)))⟩:=by
 unfold gky qdb;rw[ik,iM,List.getElem?_range h];rfl
theorem OkS.fold {T0:TS}(h:OkS T0){l:List Ev}(hl:EvsOk l):∀k,k<=l.length->OkS (qaS T0 l k)
 |0,_=>h
 |k+1,hk=>(OkS.fold h hl k (by omega)).ap (hl.evb k (by omega))
theorem qnR (T:TS)(l:List Ev){k n:Nat}(h:k<=n)(hn:n<=l.length):qaS T (l.take n) k=qaS T l k:=by
 have:=qkj T (l.take n) (l.drop n) k (by rw[im];omega);rw[iV]at this;exact this.symm
theorem qqy {T0:TS}{l:List Ev}(hl:EvsOk l){k:Nat}(hk:k<=l.length):RcOk T0 (qcr T0 l k):=by
 have hn:(l.take k).length=k:=by rw[im];omega
 have ht:=hl.take k;refine⟨ht.evb,ht.tm,fun j hj=>?_,fun j hj=>?_⟩
 ·have hj':j<k/8:=by have:j<(qdb T0 l k).length:=hj;rwa[qbX]at this
  show(gky (qdb T0 l k) j).after<=(l.take k).length/\(gky (qdb T0 l k) j).state=qa0 (qaS T0 (l.take k) (gky (qdb T0 l k) j).after);rw[qe2 T0 l hj',hn,qnR T0 l (by dsimp only;omega) hk];exact⟨by dsimp only;omega,rfl⟩
 ·have hj':j+1<k/8:=by have:j+1<(qdb T0 l k).length:=hj;rwa[qbX]at this
  show(gky (qdb T0 l k) j).after<(gky (qdb T0 l k) (j+1)).after;rw[qe2 T0 l hj',qe2 T0 l (by omega)];dsimp only;omega
theorem keyP_k (r:Rc)(i:Nat)(p:Pl)(h:p.k<=r.keys.length):(qbu r i p).k<=r.keys.length/\p.k<=(qbu r i p).k:=by
 unfold qbu;split
 ·dsimp only;omega
 ·exact⟨h,iE _⟩
theorem evP_k (r:Rc)(i:Nat)(p:Pl):(evP r i p).k=p.k:=by unfold evP;split<;>rfl
theorem qf9 {r:Rc}(hs:r.start.length<=300000)(hk:∀j,j<r.keys.length->(gky r.keys j).state.length<=300000)(he:∀i,i<r.evs.length->evB (ge r.evs i)=true):∀i,(qk r i).k<=r.keys.length/\(qk r i).out.length<=300015+300025*(qk r i).k+465*min i r.evs.length
 |0=>⟨ir _,by have:=qa2 83 r.start;show(qK 83 r.start).length<=300015+300025*0+_;omega⟩
 |i+1=>by
  obtain⟨h1,h2⟩:=qf9 hs hk he i
  obtain⟨h3,h4⟩:=keyP_k r i (qk r i) h1
  have h5:(qbu r i (qk r i)).out.length<=300015+300025*(qbu r i (qk r i)).k+465*min i r.evs.length:=by
   unfold qbu;split
   ·rename_i hc
    dsimp only;have:=qa2 75 (qR (gky r.keys (qk r i).k));have:=qd8 (gky r.keys (qk r i).k);have:=hk _ hc.1;rw[hJ];omega
   ·exact h2
  show(evP r i (qbu r i (qk r i))).k<=_/\(evP r i (qbu r i (qk r i))).out.length<=300015+300025*(evP r i (qbu r i (qk r i))).k+_;rw[evP_k];refine⟨h3,?_⟩;unfold evP;split
  ·rename_i hc
   dsimp only;have:=qa2 69 (evI (qQ r.evs i) (ge r.evs i));have:=qdF (fr:=qQ r.evs i) (he i hc);rw[hJ];omega
  ·omega
theorem rcb_of {r:Rc}(hs:qat r.start/\r.start.length<=300000)(hk:∀j,j<r.keys.length->qat (gky r.keys j).state/\(gky r.keys j).state.length<=300000/\(gky r.keys j).after<=100000000)(he:EvsOk r.evs)(h1:r.keys.length<=300)(h2:r.evs.length<=3000):RcB r:=by
 refine⟨⟨hs.1,by omega⟩,fun j hj=>⟨(hk j hj).1,by have:=(hk j hj).2.1;omega,(hk j hj).2.2⟩,fun i hi=>⟨he.evb i hi,he.tm i hi⟩,fun i=>?_⟩;obtain⟨a,c⟩:=qf9 hs.2 (fun j hj=>(hk j hj).2.1) he.evb i;omega
theorem recB_b {T0:TS}{l:List Ev}(h:OkS T0)(hl:EvsOk l){k:Nat}(hk:k<=l.length)(hn:k<=2400):RcB (qcr T0 l k):=by
 have hd:=h.dec;refine rcb_of ⟨qd5 hd,qcl hd⟩ (fun j hj=>?_) (hl.take k) (by show(qdb T0 l k).length<=300;rw[qbX];omega) (by show(l.take k).length<=3000;rw[im];omega);have hj':j<k/8:=by have:j<(qdb T0 l k).length:=hj;rwa[qbX]at this
 show qat (gky (qdb T0 l k) j).state/\(gky (qdb T0 l k) j).state.length<=300000/\(gky (qdb T0 l k) j).after<=100000000;rw[qe2 T0 l hj'];have a:=(h.fold hl (8*(j+1)) (by omega)).dec;exact⟨qd5 a,qcl a,by dsimp only;omega⟩
theorem recB_len {T0:TS}{l:List Ev}(h:OkS T0)(hl:EvsOk l){k:Nat}(hk:k<=l.length)(hn:k<=80):(qh (qcr T0 l k)).out.length<=3500000:=by
 have hd:=h.dec;have a:(qcr T0 l k).keys.length=k/8:=qbX T0 l k;have c:(qcr T0 l k).evs.length=k:=by show(l.take k).length=k;rw[im];omega
 obtain⟨d,f⟩:=qf9 (r:=qcr T0 l k) (qcl hd) (fun j hj=>by
  rw[a]at hj;show(gky (qdb T0 l k) j).state.length<=300000;rw[qe2 T0 l hj];exact qcl (h.fold hl (8*(j+1)) (by omega)).dec) (hl.take k).evb ((qcr T0 l k).evs.length+1)
 have e:(qh (qcr T0 l k)).out=(qk (qcr T0 l k) ((qcr T0 l k).evs.length+1)).out:=rfl;rw[e];rw[a]at d;rw[c]at f;rw[c]at d⊢;omega
theorem qdM {c:Int}{b:List Int}(hc:0<=c/\c<=255)(h:qat b)(hl:b.length<2^63):qat (qK c b):=qbI (qh5 hc h) (by rw[iz];omega)
theorem qi8 {r:Rc}(hW:RcB r):∀i,qat (qk r i).out
 |0=>qdM (by decide) hW.st.1 (by have:=hW.st.2;omega)
 |i+1=>by
  have ih:=qi8 hW i
  have h1:qat (qbu r i (qk r i)).out:=by
   unfold qbu;split
   ·rename_i hc
    obtain⟨c,e,f⟩:=hW.ks _ hc.1;exact ql ih (qdM (by decide) (ql (qp (by omega)) c) (by have:=qd8 (gky r.keys (qk r i).k);omega))
   ·exact ih
  show qat (evP r i (qbu r i (qk r i))).out;unfold evP;split
  ·rename_i hc
   obtain⟨a,d,g⟩:=hW.ev i hc;exact ql h1 (qdM (by decide) (qdZ a d) (by have:=qdF (fr:=qQ r.evs i) a;omega))
  ·exact h1
theorem qfa {r:Rc}:(qh r).pos.length<=r.keys.length:=by
 have a:=(pl_k r (r.evs.length+1)).1;have c:=(pl_a r (r.evs.length+1) (iE _)).1;show(qk r (r.evs.length+1)).pos.length<=_;omega
theorem qfb {r:Rc}(hW:RcB r)(hk:r.keys.length<=10000000)(whole:Bool):qat (qaK r whole):=by
 have a:=qi8 hW (r.evs.length+1);unfold qaK;split
 ·refine ql a ?_
  have hp:=pl_p hW (r.evs.length+1);have hl:=qfa (r:=r);have ha:=pl_a r (r.evs.length+1) (iE _);have c:=(pl_k r (r.evs.length+1)).1;have c:(qh r).pos.length=(qk r (r.evs.length+1)).k:=c;refine ql (qdM (by decide) (qgi hW hp hl hk (fun j hj=>?_) _ (iE _)) ?_) (qdM (by decide) (fun x hx=>?_) (show 4<2^63 by decide))
  ·have:=ha.2 j (by omega)
   exact⟨this,(hW.tm this).2⟩
  ·have:=qfB r (qh r).pos (qh r).pos.length
   omega
  ·simp only[j9,jf,or_false]at hx
   rcases hx with rfl|rfl|rfl|rfl<;>exact qge _
 ·exact a
theorem qmC {T0:TS}{l:List Ev}(h:OkS T0)(hl:EvsOk l){k:Nat}(hk:k<=l.length)(hn:k<=80)(whole:Bool):(qaK (qcr T0 l k) whole).length<=4000000:=by
 have a:=recB_len h hl hk hn;have c:=qf4 (qcr T0 l k) (((qh (qcr T0 l k)).out.length:Nat):Int) (qh (qcr T0 l k)).pos;have d:=qfa (r:=qcr T0 l k);have e:(qcr T0 l k).keys.length=k/8:=qbX T0 l k;unfold qaK;split
 ·rw[hJ];omega
 ·omega
theorem qqz {r:Rc}(hW:RcB r):∀f∈(frK r (r.evs.length+1)).1,f.length<2^64:=fun f hf=>by
 have h1:=hW.ln (r.evs.length+1)
 rw[(qgh r (r.evs.length+1)).1,hJ]at h1
 have h2:(qad f).length<=(qcq (frK r (r.evs.length+1)).1).length:=by
  obtain⟨a,b,e⟩:=List.append_of_mem hf;rw[e];simp[qcq];omega
 have:=qbW f;omega
theorem next_nil:(qb0 []).2=0:=by
 have:=qlb (l:=[]);simpa using this
theorem qnS (r:Rc)(n:Int)(ps:List Int)(hl:ps.length<=10000000):∃q,(qb0 (qaG r n ps)).1=73::q:=by
 have h:=qfB r ps ps.length;refine⟨qfW r ps ps.length,?_⟩;unfold qaG qK;rw[qfy _ (by rw[iz];omega)]
theorem qha {dec:List Int->Option TS}{T0:TS}{r:Rc}(h:RcOk T0 r)(hW:RcB r)(hd:dec r.start=some T0)(hk:r.keys.length<=10000000)(whole:Bool):qfA dec (qaK r whole)=some (⟨r,qaS T0 r.evs r.evs.length⟩,(qaK r false).length):=by
 have a:qaK r false=(qh r).out:=if_neg jH;have hs:=hW.st.2;rw[a];cases whole with
 |false=>
  rw[a];have:=qmu (dec:=dec) h hd (by omega) (qqz hW) [] (.inl next_nil);rwa[iH]at this
 |true=>
  rw[show qaK r true=(qh r).out++qaG r (((qh r).out.length:Nat):Int) (qh r).pos from if_pos rfl];obtain⟨q,hq⟩:=qnS r (((qh r).out.length:Nat):Int) (qh r).pos (by have:=qfa (r:=r);omega);exact qmu h hd (by omega) (qqz hW) _ (.inr (by rw[hq];exact qmx (by decide) (by decide)))
theorem qmD {dec:List Int->Option TS}{T0:TS}{r:Rc}(h:RcOk T0 r)(hW:RcB r)(hd:dec r.start=some T0)(hk:r.keys.length<=10000000)(whole:Bool):qc1 dec (qaK r whole)=some ⟨r,qaS T0 r.evs r.evs.length⟩:=by
 unfold qc1;rw[qha h hW hd hk whole];refine if_neg fun hh=>?_;cases whole with
 |false=>exact absurd hh.1 (Nat.lt_irrefl _)
 |true=>exact hh.2 rfl
theorem qak {w:World}{b o:Nat}{l:List Ev}(h:Rd w (some ⟨b,o,none⟩) (evsV l))(x:Int)(q j:Nat)(v:Value)(hx:x.toNat=q:=by omega)(hq:q<l.length:=by omega)(hv:(ge l q).vals[j]? =some v:=by rfl)(hj:j<5:=by decide):w.cell? ⟨b,o+x.toNat*5+j,none⟩=some v:=by
 have:=h.2 ⟨b,o,none⟩ rfl (q*5+j) v ((qiW _ _ _ hq hj).trans hv);rw[qaZ]at this;rw[hx,jR];exact this
section
variable {w0 w:World}{F0:Nat->Prop}{l:List Asn}{b sb:Nat}{r:Rc}{x:ScX}{tl:List Value}{T:TypeId}
theorem Sep.rcx (h:Sep w0 F0 w l)(k:Nat)(x:ScX)(tl:List Value)(T:TypeId)(h0:l[k]? =some (qbB b (recC x r tl) T):=by rfl)(h1:l[k+1]? =some (qa8 tEv 5 x.eo r.evs.length x.ec (evsV r.evs)):=by rfl)(h2:l[k+2]? =some (qa8 qhf 2 x.ko r.keys.length x.kc (qaC x.kx r.keys 0)):=by rfl)(h3:l[k+3]? =some (roA (roL x r)):=by rfl)(h4:l[k+4]? =some (qdj (ScOk x r)):=by rfl):RcRd w b x.sa x.sn x.sc x.eo x.ec x.ko x.kc x.kx r:=by
 have hp:=h.pure (k+4) h4;have hr:=h.ro (k+3) h3;have hb:=h.b k h0;refine⟨hb.c 0 rfl,hb.c 1 rfl,hb.c 2 rfl,hr (x.sa,r.start) (jd ..),hp.sl,hp.sz,(h.own (k+1) h1).rd,(h.own (k+2) h2).rd,hp.en,fun i hi=>⟨hr ((x.kx i).1,(gky r.keys i).state) (j6 _ (j7.2 ⟨i,jz.2 hi,rfl⟩)),hp.kl i hi⟩⟩
end
theorem addB_len {r:Rc}{U:TS}{e:Ev}(hO:OkS U)(hB:evB e=true):(qqq ⟨r,U⟩ e).length<=301000:=by
 have c:=qa2 69 (evI (qa1 r.evs) e);have d:=qdF (fr:=qa1 r.evs) hB;have f:=qa2 75 (qR ⟨r.evs.length+1,qa0 (qae U e)⟩);have a:=qd8 ⟨r.evs.length+1,qa0 (qae U e)⟩;have g:(qa0 (qae U e)).length<=300000:=qcl (hO.ap hB).dec;dsimp only at a;unfold qqq;dsimp only;split
 ·rw[hJ];omega
 ·omega
section
variable {w0 w w':World}{F0:Nat->Prop}{l:List Asn}{b sb:Nat}
theorem Sep.outRec {q:Fl}{qu lf:Int}{s:Sc}(h:Sep w0 F0 w l)(i:Nat)(hi:l[i]? =some (logA b sb q qu lf s):=by rfl):∃x tl,Sep w0 F0 w (recL b s.r x tl qaz):=by
 have h:=h.only hi fun _ h=>h;obtain⟨_,h⟩:=h.unpack 0;obtain⟨x,h⟩:=h.unpack 2;exact⟨x,wrC sb x.t,(h.ord [3,4,5,6,7]).eqv⟩
theorem Sep.outScan {s:Sc}(h:Sep w0 F0 w l)(i:Nat)(hi:l[i]? =some (qel b s):=by rfl):∃x tl,Sep w0 F0 w (recL b s.r x tl qiX):=by
 have h:=h.only hi fun _ h=>h;obtain⟨x,h⟩:=h.unpack 0;exact⟨x,[.pointer (some ⟨x.t,0,none⟩)],(h.ord [1,2,3,4,5]).eqv⟩
theorem NewA.scan {s:Sc}(h:NewA (qel b s) w w'):∃x tl,Sep w (fun _=>False) w' (recL b s.r x tl qiX):=((Sep.nil w).addN h).outScan 0
end
structure Plan where
 p1:Int
 p2:Int
 ea:Option Addr
 en:Nat
 ec:Nat
 l:List Ev
 ma:Option Addr
 mn:Nat
 mc:Nat
 ms:List Int
def Plan.val (p:Plan):Value:= .agg #[.int .i64 p.p1,.int .i64 p.p2,.slice p.ea p.en p.ec,.slice p.ma p.mn p.mc]
structure PlanIn (w:World)(p:Plan):Prop where
 er:Rd w p.ea (evsV p.l)
 el:p.l.length=p.en
 ez:p.en=0\/ ∃b off,p.ea=some ⟨b,off,none⟩
 mr:Rd w p.ma (p.ms.map (Value.int .i64))
 ml:p.ms.length=p.mn
 mz:p.mn=0\/ ∃b off,p.ma=some ⟨b,off,none⟩
 eb:p.en<=9223372036854775807
 mb:p.mn<=9223372036854775807
theorem PlanIn.ch {w w':World}{p:Plan}(h:PlanIn w p)(hc:Ch (fun _=>False) w w'):PlanIn w' p:={h with er:=h.er.ch hc fun _ _ h=>h,mr:=h.mr.ch hc fun _ _ h=>h}
def Plan.T0 (p:Plan):TS:=startT zeroT p.p1 p.p2
theorem Plan.ok (p:Plan):OkS p.T0:=OkS.start p.p1 p.p2
abbrev Plan.t (p:Plan):List Ev:=tameL p.l
theorem Plan.tok {p:Plan}(h:p.l.length<=40):EvsOk p.t/\p.t.length=p.l.length:=⟨(qj2 p.l p.l.length (by omega)).1,qkw _ _⟩
theorem ev_eqB (a b:Ev):((a.time==b.time)&&((a.kind==b.kind)&&(((a.data).toList==(b.data).toList)&&((a.w==b.w)&&((a.h==b.h)&&true)))))=true↔a=b:=by
 obtain⟨t,k,d,w,h⟩:=a;obtain⟨t',k',d',w',h'⟩:=b;dsimp only;simp only[ii,iU,k6,Ev.mk.injEq];constructor
 ·rintro ⟨c,e,f,g,i⟩;exact⟨c,e,qhM (iU.2 f),g,i⟩
 rintro ⟨c,e,f,g,i⟩;exact⟨c,e,by rw[f],g,i⟩
theorem evs_ext {a b:List Ev}(hl:a.length=b.length)(h:∀i,i<a.length->ge a i=ge b i):a=b:=by
 refine List.ext_getElem hl fun i c d=>?_;have:=h i c;unfold ge at this;rw[ik,ik,ig c,ig d]at this;exact this
theorem tame_any (a:Option Addr)(n cap:Nat)(l:List Ev)(w:World)(hr:Rd w a (evsV l))(hn:l.length=n)(hz:n=0\/ ∃b off,a=some ⟨b,off,none⟩)(hm:n<=1000):CP 47 [.slice a n cap].toArray w fun e w'=> ∃o c',e= .returned (.slice (o.map at0) n c')/\Sep w (fun _=>False) w' [qa8 tEv 5 o n c' (evsV (tameL l))]:=by
 have h:=Sep.nil w;refine yA Tryz.func47 rfl<|yx 1<|yx 1<|yx 1<|ys<|yx 1<|qa<|qV [0,3,4,5] (f':=[(0,.slice a n cap),(3,nX),(4,iX 0),(5,iX 0)])<|qw (σ:=Nat×Int×Option Nat×Nat) (fun⟨k,tt,o,c⟩=>[(0,.slice a n cap),(3,.slice (o.map at0) k c),(4,iX tt),(5,iX (k:Int))]) (fun⟨k,tt,o,c⟩ u=>k<=n/\tt=qa1 (qb8 l k)/\Sep w (fun _=>False) u [qa8 tEv 5 o k c (evsV (qb8 l k))]) (fun⟨k,tt,o,c⟩=>n-k) (0,0,none,0) rfl ?_ ?_
 ·exact⟨ir _,rfl,h.own0 tEv 5⟩
 intro q u x N g;obtain⟨k,tt,o,c⟩:=q;obtain⟨hk,d,h⟩:=x;refine ys<|yx 4<|yc (rL (k:Int) (n:Int)) (fun p=>?_) fun p=>?_
 ·have O:=p;obtain⟨b,off,rfl⟩:=hz.resolve_left (by omega);have v:=qj2 l k (by omega);have P:=v.2;have Q:=v.1.last.1;have R:=andT (ge l k).time;have S:=andS (ge l k).w;have T:=andS (ge l k).h;refine yk<|ys<|qa<|ysr<|yp 4 [] (.i (k:Int) (n) (.m (qak (hr.ch h.ch fun _ _ h=>h) ((k:Int)) k 0 _) (.m (qak (hr.ch h.ch fun _ _ h=>h) ((k:Int)) k 1 _) (.m (qak (hr.ch h.ch fun _ _ h=>h) ((k:Int)) k 2 _) (.m (qak (hr.ch h.ch fun _ _ h=>h) ((k:Int)) k 3 _) (.m (qak (hr.ch h.ch fun _ _ h=>h) ((k:Int)) k 4 _) (.e .z)))))))<|yo (zN [iX 0,iX 0,oX,iX 0,iX 0] 66 h fun u U h=>?_);refine yo (zs h 1 fun u h=>?_);refine ye<|ysr<|yp 4 [] (.l (h.c 1 1) .z)<|yo (zs h 1 fun u h=>?_);refine ye<|ysr<|yp 6 [] (.l (h.c 1 0) (.q6 (tt+(qe .and .i64 (ge l k).time 65535)) .z))<|yo (zs h 1 fun u h=>?_);refine ye<|ysr<|yp 3 [] (.l (h.c 1 0) .z)<|ye<|ys<|ysr<|yp 4 [] (.l (h.c 1 2) .z)<|ye<|yc (rL 400 (((ge l k).data).size:Int)) (fun r=>?_) fun r=>?_
  ·have y:=r;refine q7<|yp 4 [] (.l (h.c 1 2) (.j 400 (((ge l k).data).size) .z))<|yo (zs h 1 fun u h=>?_);refine ye<|ys<|ysr<|yp 3 [] (.l (h.c 1 1) .z)<|ye<|yc (rE (qe .and .i64 (ge l k).kind 3) 2) (fun s=>?_) fun s=>?_
   ·have A:=s;refine ysr<|yq 1<|yo (zs h 1 fun u h=>?_);refine ye<|ysr<|yp 5 [] (.l (h.c 1 3) (.q6 ((qe .and .i64 (ge l k).w 127)+1) .z))<|yo (zS h 1 [iX (tt+(qe .and .i64 (ge l k).time 65535)),iX (qe .and .i64 (ge l k).kind 3),oX,iX ((qe .and .i64 (ge l k).w 127)+1),iX (ge l k).h] fun u h=>?_);refine ye<|q7<|yp 5 [] (.l (h.c 1 4) (.q6 ((qe .and .i64 (ge l k).h 127)+1) .z))<|yo (zs h 1 fun u h=>?_);refine ye<|q7<|yp 2 [] (.a (h.cs 1 0 5) .z)<|yo (zB [iX (tt+(qe .and .i64 (ge l k).time 65535)),iX (qe .and .i64 (ge l k).kind 3),oX,iX ((qe .and .i64 (ge l k).w 127)+1),iX ((qe .and .i64 (ge l k).h 127)+1)] 66 1 h fun u V h=>?_);have h:=h.nrm 1 [iX (tt+(qe .and .i64 (ge l k).time 65535)),iX (qe .and .i64 (ge l k).kind 3),oX,iX ((qe .and .i64 (ge l k).w 127)+1),iX ((qe .and .i64 (ge l k).h 127)+1)];have f:qcG tt (ge l k)=⟨(tt+(qe .and .i64 (ge l k).time 65535)),(qe .and .i64 (ge l k).kind 3),ByteArray.empty,((qe .and .i64 (ge l k).w 127)+1),((qe .and .i64 (ge l k).h 127)+1)⟩:=by unfold qcG;rw[if_pos A]<;>rfl
    refine yo (zA 0 48 1 1 (k+1) (evsV (qb8 l (k+1))) h (Rd.all (h.b 2)) rfl (hz:=by rw[show qb8 l (k+1)=qb8 l k++[qcG tt (ge l k)] by rw[d];rfl,qd7,f];rfl) fun u B C h W=>?_);refine yq 5<|yE (nB (nS ?_));refine q7<|yp 3 [] (.q6 ((k:Int)+1) .z)<|yE (fun a ha=>g (k+1,(tt+(qe .and .i64 (ge l k).time 65535)),B,C) _ ⟨by omega,by rw[show qb8 l (k+1)=qb8 l k++[qcG (qa1 (qb8 l k)) (ge l k)]from rfl,qcY,qce,<-d],h.take 1⟩ (by show n-(k+1)<n-k;omega) a (ha.kp [0,3,4,5]))
   have D:=s;refine ysr<|yq 1<|yo (zs h 1 fun u h=>?_);refine ye<|q7<|yq 1<|yo (zS h 1 [iX (tt+(qe .and .i64 (ge l k).time 65535)),iX (qe .and .i64 (ge l k).kind 3),.string (((ge l k).data).extract 0 (400:Int).toNat),iX 0,iX 0] fun u h=>?_);refine ye<|q7<|yp 2 [] (.a (h.cs 1 0 5) .z)<|yo (zB [iX (tt+(qe .and .i64 (ge l k).time 65535)),iX (qe .and .i64 (ge l k).kind 3),.string (((ge l k).data).extract 0 (400:Int).toNat),iX 0,iX 0] 66 1 h fun u X h=>?_);have f:qcG tt (ge l k)=⟨(tt+(qe .and .i64 (ge l k).time 65535)),(qe .and .i64 (ge l k).kind 3),(((ge l k).data).extract 0 (400:Int).toNat),0,0⟩:=by unfold qcG;rw[if_neg D];unfold cut4;rw[if_pos y]<;>rfl
   refine yo (zA 0 48 1 1 (k+1) (evsV (qb8 l (k+1))) h (Rd.all (h.b 2)) rfl (hz:=by rw[show qb8 l (k+1)=qb8 l k++[qcG tt (ge l k)] by rw[d];rfl,qd7,f];rfl) fun u E F h Y=>?_);refine yq 5<|yE (nB (nS ?_));refine q7<|yp 3 [] (.q6 ((k:Int)+1) .z)<|yE (fun a ha=>g (k+1,(tt+(qe .and .i64 (ge l k).time 65535)),E,F) _ ⟨by omega,by rw[show qb8 l (k+1)=qb8 l k++[qcG (qa1 (qb8 l k)) (ge l k)]from rfl,qcY,qce,<-d],h.take 1⟩ (by show n-(k+1)<n-k;omega) a (ha.kp [0,3,4,5]))
  have G:=r;refine yk<|ys<|ysr<|yp 3 [] (.l (h.c 1 1) .z)<|ye<|yc (rE (qe .and .i64 (ge l k).kind 3) 2) (fun t=>?_) fun t=>?_
  ·have H:=t;refine ysr<|yq 1<|yo (zs h 1 fun u h=>?_);refine ye<|ysr<|yp 5 [] (.l (h.c 1 3) (.q6 ((qe .and .i64 (ge l k).w 127)+1) .z))<|yo (zs h 1 fun u h=>?_);refine ye<|q7<|yp 5 [] (.l (h.c 1 4) (.q6 ((qe .and .i64 (ge l k).h 127)+1) .z))<|yo (zS h 1 [iX (tt+(qe .and .i64 (ge l k).time 65535)),iX (qe .and .i64 (ge l k).kind 3),oX,iX ((qe .and .i64 (ge l k).w 127)+1),iX ((qe .and .i64 (ge l k).h 127)+1)] fun u h=>?_);refine ye<|q7<|yp 2 [] (.a (h.cs 1 0 5) .z)<|yo (zB [iX (tt+(qe .and .i64 (ge l k).time 65535)),iX (qe .and .i64 (ge l k).kind 3),oX,iX ((qe .and .i64 (ge l k).w 127)+1),iX ((qe .and .i64 (ge l k).h 127)+1)] 66 1 h fun u Z h=>?_);have f:qcG tt (ge l k)=⟨(tt+(qe .and .i64 (ge l k).time 65535)),(qe .and .i64 (ge l k).kind 3),ByteArray.empty,((qe .and .i64 (ge l k).w 127)+1),((qe .and .i64 (ge l k).h 127)+1)⟩:=by unfold qcG;rw[if_pos H]<;>rfl
   refine yo (zA 0 48 1 1 (k+1) (evsV (qb8 l (k+1))) h (Rd.all (h.b 2)) rfl (hz:=by rw[show qb8 l (k+1)=qb8 l k++[qcG tt (ge l k)] by rw[d];rfl,qd7,f];rfl) fun u I J h a0=>?_);refine yq 5<|yE (nB (nS ?_));refine q7<|yp 3 [] (.q6 ((k:Int)+1) .z)<|yE (fun a ha=>g (k+1,(tt+(qe .and .i64 (ge l k).time 65535)),I,J) _ ⟨by omega,by rw[show qb8 l (k+1)=qb8 l k++[qcG (qa1 (qb8 l k)) (ge l k)]from rfl,qcY,qce,<-d],h.take 1⟩ (by show n-(k+1)<n-k;omega) a (ha.kp [0,3,4,5]))
  have K:=t;refine ysr<|yq 1<|yo (zs h 1 fun u h=>?_);refine ye<|q7<|yq 1<|yo (zs h 1 fun u h=>?_);refine ye<|q7<|yp 2 [] (.a (h.cs 1 0 5) .z)<|yo (zB [iX (tt+(qe .and .i64 (ge l k).time 65535)),iX (qe .and .i64 (ge l k).kind 3),.string (ge l k).data,iX 0,iX 0] 66 1 h fun u a1 h=>?_);have h:=h.nrm 1 [iX (tt+(qe .and .i64 (ge l k).time 65535)),iX (qe .and .i64 (ge l k).kind 3),.string (ge l k).data,iX 0,iX 0];have f:qcG tt (ge l k)=⟨(tt+(qe .and .i64 (ge l k).time 65535)),(qe .and .i64 (ge l k).kind 3),(ge l k).data,0,0⟩:=by unfold qcG;rw[if_neg K];unfold cut4;rw[if_neg G]<;>rfl
  refine yo (zA 0 48 1 1 (k+1) (evsV (qb8 l (k+1))) h (Rd.all (h.b 2)) rfl (hz:=by rw[show qb8 l (k+1)=qb8 l k++[qcG tt (ge l k)] by rw[d];rfl,qd7,f];rfl) fun u L M h a2=>?_);refine yq 5<|yE (nB (nS ?_));refine q7<|yp 3 [] (.q6 ((k:Int)+1) .z)<|yE (fun a ha=>g (k+1,(tt+(qe .and .i64 (ge l k).time 65535)),L,M) _ ⟨by omega,by rw[show qb8 l (k+1)=qb8 l k++[qcG (qa1 (qb8 l k)) (ge l k)]from rfl,qcY,qce,<-d],h.take 1⟩ (by show n-(k+1)<n-k;omega) a (ha.kp [0,3,4,5]))
 have a3:=p;refine qm (eS (qd (qb (nS ?_))));refine yx 2<|q9 (yR1 (.slice (o.map at0) k c) ?_);obtain rfl:n=k:=by omega
 exact⟨_,_,rfl,by rw[show tameL l=qb8 l n by rw[<-hn]];exact h⟩
theorem qi9 (a a2:Option Addr)(n m c c2:Nat)(l l2:List Ev)(w:World)(hr:Rd w a (evsV l))(hr2:Rd w a2 (evsV l2))(hn:l.length=n)(hm:l2.length=m)(hz:n=0\/ ∃b off,a=some ⟨b,off,none⟩)(hz2:m=0\/ ∃b off,a2=some ⟨b,off,none⟩)(hb:n<=10000000)(hb2:m<=9223372036854775807):CP 17 [.slice a n c,.slice a2 m c2].toArray w fun e w'=> ∃r:Bool,e= .returned (.bool r)/\(r=true↔l=l2)/\Ch (fun _=>False) w w':=by
 have h:=Sep.nil w;refine yA Tryz.func17 rfl<|yx 1<|ys<|yx 5<|yc (rI (n:Int) (m:Int)) (fun d=>?_) fun d=>?_
 ·have v:=d;refine yx 1<|q9 (rS (yR1 (xF) ?_));exact⟨_,rfl,⟨fun e=>(by cases e),fun e=>absurd (congrArg List.length e) (by omega)⟩,h.ch⟩
 have x:=d;refine yk<|ys<|yx 1<|qa<|qV [0,1,5] (f':=[(0,.slice a n c),(1,.slice a2 m c2),(5,iX 0)])<|qw (σ:=Nat) (fun k=>[(0,.slice a n c),(1,.slice a2 m c2),(5,iX (k:Int))]) (fun k u=>k<=n/\(∀j,j<k->ge l j=ge l2 j)/\Sep w (fun _=>False) u []) (fun k=>n-k) 0 rfl ?_ ?_
 ·exact⟨ir _,fun j hj=>absurd hj (j0 j),h.take 0⟩
 intro k u p y q;obtain⟨hk,hE,h⟩:=p;refine ys<|yx 4<|yc (rL (k:Int) (n:Int)) (fun f=>?_) fun f=>?_
 ·have A:=f;obtain⟨B,C,rfl⟩:=hz.resolve_left (by omega);obtain⟨D,E,rfl⟩:=hz2.resolve_left (by omega);refine yk<|ys<|qa<|ys<|zD [] h fun u h=>yd (uL 0 9) [] (.i (k:Int) (n) (.m (qak (hr.ch h.ch fun _ _ h=>h) ((k:Int)) k 0 _) (.m (qak (hr.ch h.ch fun _ _ h=>h) ((k:Int)) k 1 _) (.m (qak (hr.ch h.ch fun _ _ h=>h) ((k:Int)) k 2 _) (.m (qak (hr.ch h.ch fun _ _ h=>h) ((k:Int)) k 3 _) (.m (qak (hr.ch h.ch fun _ _ h=>h) ((k:Int)) k 4 _) (.e (.i (k:Int) (m) (.m (qak (hr2.ch h.ch fun _ _ h=>h) ((k:Int)) k 0 _) (.m (qak (hr2.ch h.ch fun _ _ h=>h) ((k:Int)) k 1 _) (.m (qak (hr2.ch h.ch fun _ _ h=>h) ((k:Int)) k 2 _) (.m (qak (hr2.ch h.ch fun _ _ h=>h) ((k:Int)) k 3 _) (.m (qak (hr2.ch h.ch fun _ _ h=>h) ((k:Int)) k 4 _) (.e .z))))))))))))))<|yDe (nS ?_);refine yc (rN (rY ((((ge l k).time:Int)==(ge l2 k).time)&&((((ge l k).kind:Int)==(ge l2 k).kind)&&((((ge l k).data).toList==((ge l2 k).data).toList)&&((((ge l k).w:Int)==(ge l2 k).w)&&((((ge l k).h:Int)==(ge l2 k).h)&&true))))))) (fun g=>?_) fun g=>?_
  ·have s:=g;refine yx 1<|q9 (rB (rS (qy (rB (rS (yR1 (xF) ?_))))));exact⟨_,rfl,⟨fun e=>(by cases e),fun e=>absurd ((ev_eqB (ge l k) (ge l2 k)).2 (by rw[e])) (iY.1 s)⟩,h.ch⟩
  have t:=g;refine qo (nB (nS ?_));refine q7<|yp 3 [] (.q6 ((k:Int)+1) .z)<|yE (fun a ha=>q (k+1) _ ⟨by omega,fun j hj=>(iL j k).elim (fun o=>hE j o) fun o=>by(obtain rfl:j=k:=by omega);exact(ev_eqB _ _).1 t,h.take 0⟩ (by show n-(k+1)<n-k;omega) a (ha.kp [0,1,5]))
 have F:=f;refine qm (eS (qd (qb (nS ?_))));refine yx 1<|q9 (yR1 (.bool true) ?_);exact⟨_,rfl,⟨fun _=>evs_ext (by omega) fun i hi=>hE i (by omega),fun _=>rfl⟩,h.ch⟩
theorem pfew_any (p:Plan)(w:World):CP 15 [p.val].toArray w fun e w'=> ∃r:Bool,e= .returned (.bool r)/\(r=true↔p.en<=40/\p.mn<=60)/\Ch (fun _=>False) w w':=by
 have h:=Sep.nil w;refine yA Tryz.func15 rfl<|ysr<|yo (zN [iX p.p1,iX p.p2,.slice p.ea p.en p.ec,.slice p.ma p.mn p.mc] 26 h fun u b h=>?_);refine yz 2<|ysr<|yp 5 [] (.l (h.c 0 2) .z)<|yw [7] (rM (p.en:Int) 40) (fun a=>?_) fun a=>?_
 ·have d:=a;refine yp 11 [] (.l (h.c 0 3) .z)<|ye<|q9 (yR1 (.bool (decide ((p.mn:Int)<=60))) ?_);exact⟨_,rfl,by first|(simp only[ip];omega)|(simp only[iv,ji,true_iff];omega),h.ch⟩
 have f:=a;refine yz 11<|q9 (yR1 (xF) ?_);exact⟨_,rfl,by first|(simp only[ip];omega)|(simp only[iv,ji,true_iff];omega),h.ch⟩
theorem qqA (p:Plan)(w:World)(hP:PlanIn w p)(hfew:p.en<=40):CP 18 [p.val].toArray w fun e w'=> ∃o c,e= .returned (.slice (o.map at0) p.en c)/\Sep w (fun _=>False) w' [qa8 tEv 5 o p.en c (evsV p.t)]:=by
 have h:=Sep.nil w;refine yA Tryz.func18 rfl<|ysr<|yo (zN [iX p.p1,iX p.p2,.slice p.ea p.en p.ec,.slice p.ma p.mn p.mc] 26 h fun u f h=>?_);refine yz 2<|ysr<|yp 2 [] (.l (h.c 0 2) .z)<|yo (yC (tame_any p.ea p.en p.ec p.l _ (hP.ch h.ch).er hP.el hP.ez (by omega)) ?_);rintro _ u ⟨a,b,rfl,d⟩;refine⟨_,rfl,?_⟩;have h:=h.join d;refine yz 4<|q9 (yR1 (.slice (a.map at0) p.en b) ?_);exact⟨_,_,rfl,(h.ord [1]).eqv⟩
theorem Own.bz {w:World}{o:Option Nat}{n c:Nat}{x:List Value}(h:Own w tU8 1 o n c x):(n=0/\c=0)\/ ∃b q,o.map at0=some ⟨b,q,none⟩:=by
 cases o with
 |none=>exact .inl (h.2.2.2.1 rfl)
 |some q=>exact .inr ⟨q,0,rfl⟩
theorem Own.nz {w:World}{o:Option Nat}{e:TypeId}{sz n c:Nat}{x:List Value}(h:Own w e sz o n c x):o.map at0=none->c=0:=by
 cases o with
 |none=>exact fun _=>(h.2.2.2.1 rfl).2
 |some q=>exact fun e=>by cases e
theorem Own.ez {w:World}{o:Option Nat}{n c:Nat}{x:List Value}(h:Own w tEv 5 o n c x):n=0\/ ∃b off,o.map at0=some ⟨b,off,none⟩:=by
 cases o with
 |none=>exact .inl (h.2.2.2.1 rfl).1
 |some q=>exact .inr ⟨q,0,rfl⟩
theorem rc_ext {r q:Rc}(h1:r.start=q.start)(h2:r.evs=q.evs)(h3:r.keys.length=q.keys.length)(h4:∀j,j<r.keys.length->gky r.keys j=gky q.keys j):r=q:=by
 obtain⟨a,b,c⟩:=r;obtain⟨a',b',c'⟩:=q;dsimp only at*;subst h1 h2;congr 1;refine List.ext_getElem h3 fun i d e=>?_;have:=h4 i d;unfold gky at this;rw[ik,ik,ig d,ig e]at this;exact this
theorem ky_ext {a b:Ky}(h1:a.after=b.after)(h2:a.state=b.state):a=b:=by
 cases a;cases b;dsimp only at*;subst h1 h2;rfl
theorem RcRd.ez {w:World}{b:Nat}{sa:Option Addr}{sn sc:Nat}{eo:Option Nat}{ec:Nat}{ko:Option Nat}{kc:Nat}{kx:Nat->Option Addr×Nat×Nat}{r:Rc}(h:RcRd w b sa sn sc eo ec ko kc kx r):r.evs.length=0\/ ∃b off,eo.map at0=some ⟨b,off,none⟩:=by
 rcases jm r.evs.length with a|a
 ·exact .inl a
 ·obtain⟨eb,rfl⟩:=h.eb a
  exact .inr ⟨eb,0,rfl⟩
section
variable {w0 w w':World}{F0:Nat->Prop}{l:List Asn}{T0:TS}{r:Rc}{whole:Bool}{o:Option Nat}{n c b:Nat}{x:ScX}{tl:List Value}{T:TypeId}
theorem SepOn.rcx {is:List Nat}(h:SepOn w0 F0 l is w)(k:Nat)(x:ScX)(tl:List Value)(T:TypeId)(hm:([k,k+1,k+2,k+3,k+4].all fun i=>is.contains i)=true:=by rfl)(h0:l[k]? =some (qbB b (recC x r tl) T):=by rfl)(h1:l[k+1]? =some (qa8 tEv 5 x.eo r.evs.length x.ec (evsV r.evs)):=by rfl)(h2:l[k+2]? =some (qa8 qhf 2 x.ko r.keys.length x.kc (qaC x.kx r.keys 0)):=by rfl)(h3:l[k+3]? =some (roA (roL x r)):=by rfl)(h4:l[k+4]? =some (qdj (ScOk x r)):=by rfl):RcRd w b x.sa x.sn x.sc x.eo x.ec x.ko x.kc x.kx r:=by
 obtain⟨l',h,e⟩:=h;have g:=jE.1 e;simp only[List.all_cons,List.all_nil,k6,ii,List.contains_iff_mem]at hm;obtain⟨a,d,f,j,m⟩:=hm;exact h.rcx k x tl T ((g _ a).trans h0) ((g _ d).trans h1) ((g _ f).trans h2) ((g _ j).trans h3) ((g _ m).trans h4)
theorem SepOn.own {is:List Nat}{e:TypeId}{sz cap:Nat}{xs:List Value}(h:SepOn w0 F0 l is w)(i:Nat)(hm:is.contains i=true:=by rfl)(hi:l[i]? =some (qa8 e sz o n cap xs):=by rfl):Own w e sz o n cap xs:=by
 obtain⟨l',h,e⟩:=h;exact h.own i ((jE.1 e i (by simpa using hm)).trans hi)
theorem SepOn.ownRd' {is:List Nat}{e:TypeId}{sz cap:Nat}{xs:List Value}(h:SepOn w0 F0 l is w)(i:Nat)(hm:is.contains i=true:=by rfl)(hi:l[i]? =some (qa8 e sz o n cap xs):=by rfl):Rd w (o.map at0) xs:=(h.own i hm hi).rd
theorem Sep.enc13 (h:Sep w0 F0 w l)(k:Nat)(x:ScX)(tl:List Value)(T:TypeId)(hW:RcB r)(whole:Bool)(h0:l[k]? =some (qbB b (recC x r tl) T):=by rfl)(h1:l[k+1]? =some (qa8 tEv 5 x.eo r.evs.length x.ec (evsV r.evs)):=by rfl)(h2:l[k+2]? =some (qa8 qhf 2 x.ko r.keys.length x.kc (qaC x.kx r.keys 0)):=by rfl)(h3:l[k+3]? =some (roA (roL x r)):=by rfl)(h4:l[k+4]? =some (qdj (ScOk x r)):=by rfl):
  CP 20 [.pointer (some ⟨b,0,none⟩),.bool whole].toArray w fun e w'=> ∃o n c,e= .returned (.slice (o.map at0) n c)/\Sep w0 F0 w' (l++[qa8 tU8 1 o n c (u8s (qaK r whole))]):=by
 have hR:=h.rcx k x tl T h0 h1 h2 h3 h4;cases whole with
 |true=>exact(qdI b w hR hW).mono fun e w' ⟨o,n,c,he,hN⟩=>⟨o,n,c,he,h.join hN⟩
 |false=>exact(qf7 b w hR hW).mono fun e w' ⟨o,n,c,he,hN⟩=>⟨o,n,c,he,h.join hN⟩
theorem Sep.dec13 (h:Sep w0 (fun _=>False) w l)(hT:LT w0)(h7:gTop<=w0.heap.size)(i:Nat)(hOk:RcOk T0 r)(hW:RcB r)(hs:r.start=qa0 T0)(hT0:OkS T0)(hk:r.keys.length<=100000)(hl:(qaK r whole).length<=9000000)(hi:l[i]? =some (qa8 tU8 1 o n c (u8s (qaK r whole))):=by rfl):
  CP 19 [.slice (o.map at0) n c].toArray w fun e w'=> ∃b x tl,e= .returned (.tuple #[.pointer (some ⟨b,0,none⟩),.int .i64 0])/\Sep w0 (fun _=>False) w' (l++recL b r x tl qiX):=by
 have hO:=h.own i hi;have hd:qo2 T0 r.start=some T0:=by rw[hs];exact qqm T0
 have hr:=qha (dec:=qo2 T0) hOk hW hd (by omega) whole;have a:=qmD (dec:=qo2 T0) hOk hW hd (by omega) whole;refine(qh9 (dec:=qo2 T0) (o.map at0) n c (qaK r whole) w (qaW h.ch hT (fun _ h=>h.elim)) (iq h7 h.ch.size) hO.rd hO.len1' hO.2.1 hO.bz (qfb hW (by omega) whole) (by have:=hO.len1';omega) (qqn hT0) (fun s k hh=>?_)).mono fun e w' ⟨v,x,he,hv⟩=>?_
 ·rw[hr]at hh
  obtain⟨rfl,rfl⟩:=iC (ia hh);exact⟨hW,qfb hW (by omega) true⟩
 ·rcases hv with⟨hn,_⟩|⟨b,s,d,rfl,rfl,hN⟩
  ·rw[a]at hn;cases hn
  ·rw[a]at d
   obtain rfl:=ia d;obtain⟨x,tl,hN⟩:=hN.scan;exact⟨b,x,tl,he,h.join hN⟩
end
structure BuiltF (p:Plan)(r:Rc):Prop where
 st:r.start=qa0 p.T0
 ev:r.evs=p.t
 el:r.evs.length=p.en
 kl:r.keys.length=p.en/8
 kg:∀j,j<p.en/8->gky r.keys j=⟨8*(j+1),qa0 (qaS p.T0 p.t (8*(j+1)))⟩
 W:RcB r
 ok:RcOk p.T0 r
 ln:∀whole,(qaK r whole).length<=4000000
theorem built_f {p:Plan}(hl:p.l.length=p.en)(hf:p.en<=40):BuiltF p (qcr p.T0 p.t p.en):=by
 obtain⟨a,d⟩:=Plan.tok (p:=p) (by omega);exact⟨rfl,je (by omega),by show(p.t.take p.en).length=p.en;rw[im];omega,qbX _ _ _,fun j hj=>qe2 _ _ hj,recB_b p.ok a (by omega) (by omega),qqy a (by omega),qmC p.ok a (by omega) (by omega)⟩
def qj8:TS:=startT zeroT 2 1
def fitE:Ev:=⟨3,0,⟨#[97]⟩,0,0⟩
theorem qhb:OkS qj8:=OkS.start 2 1
theorem qqB:evB fitE=true:=by decide+kernel
theorem fit_len:(qK 83 (qa0 qj8)).length+(qqq ⟨⟨qa0 qj8,[],[]⟩,qj8⟩ fitE).length<=2000:=by decide+kernel
abbrev fitR:Rc:=qcr qj8 [fitE] 1
theorem fit_add:addS ⟨⟨qa0 qj8,[],[]⟩,qj8⟩ fitE=⟨fitR,qaS qj8 [fitE] 1⟩:=qlr qj8 [fitE] (k:=0) (by decide)
theorem qls:EvsOk [fitE]:=EvsOk.nil.snoc qqB (by decide)
theorem fitR_ok:RcOk qj8 fitR:=qqy qls (by decide)
theorem fitR_b:RcB fitR:=recB_b qhb qls (by decide) (by decide)
theorem fitR_len (whole:Bool):(qaK fitR whole).length<=4000000:=qmC qhb qls (by decide) (by decide) whole
def KeyN (n:Nat)(K:List Ky):Prop:=K=[]\/ ∃x,K=[⟨n+1,x⟩]
def addR (r:Rc)(e:Ev)(K:List Ky):Rc:=⟨r.start,r.evs++[e],r.keys++K⟩
section
variable {r:Rc}{e:Ev}{K:List Ky}
theorem gky_app {i:Nat}(h:i<r.keys.length):gky (r.keys++K) i=gky r.keys i:=by
 unfold gky;rw[ik,ik,iw h]
theorem qqC {l:List Ev}{i:Nat}(h:i<l.length):ge (l++[e]) i=ge l i:=by
 unfold ge;rw[ik,ik,iw h]
theorem qia {l:List Ev}{i:Nat}(h:i<=l.length):qQ (l++[e]) i=qQ l i:=by
 unfold qQ;split
 ·rfl
 ·rw[qqC (by omega)]
theorem qmE (hK:KeyN r.evs.length K){i:Nat}(hi:i<=r.evs.length)(p:Pl):qbu (addR r e K) i p=qbu r i p:=by
 unfold qbu addR;dsimp only;rcases iL p.k r.keys.length with h|h
 ·rw[gky_app h]
  simp only[hJ,h,true_and,show p.k<r.keys.length+K.length by omega]
 ·rw[if_neg (c:=p.k<r.keys.length/\_) (fun hh=>by omega)]
  refine if_neg fun hh=>?_;rcases hK with rfl|⟨x,rfl⟩
  ·simp only[iH]at hh;omega
  ·have b:=hh.1
   rw[hJ,jv]at b;have a:=hh.2;rw[show p.k=r.keys.length by omega]at a;unfold gky at a;rw[ik,iF (iE _),Nat.sub_self]at a;have a:r.evs.length+1=i:=a;omega
theorem qky (hK:KeyN r.evs.length K):∀i,i<=r.evs.length->qk (addR r e K) i=qk r i
 |0,_=>rfl
 |i+1,hi=>by
  show evP _ i (qbu _ i _)=evP _ i (qbu _ i _)
  rw[qky hK i (by omega),qmE hK (by omega)]
  unfold evP
  rw[if_pos (show i<r.evs.length by omega),if_pos (show i<(addR r e K).evs.length by show i<(r.evs++[e]).length;rw[hJ];omega)]
  show Pl.mk (_++qK 69 (evI (qQ (r.evs++[e]) i) (ge (r.evs++[e]) i))) _ _=_
  rw[qia (by omega),qqC (by omega)]
def addO (r:Rc)(e:Ev)(K:List Ky):List Int:=qK 69 (evI (qa1 r.evs) e)++K.flatMap fun k=>qK 75 (qR k)
theorem qkz (hK:KeyN r.evs.length K)(hk:(qh r).k=r.keys.length):(qh (addR r e K)).out=(qh r).out++addO r e K/\(qh (addR r e K)).k=(addR r e K).keys.length:=by
 have a:qh r=qbu r r.evs.length (qk r r.evs.length):=if_neg (Nat.lt_irrefl _);obtain⟨p,hp⟩:∃p,p=qbu r r.evs.length (qk r r.evs.length):=⟨_,rfl⟩
 rw[a,<-hp]at hk⊢;have hl:(addR r e K).evs.length=r.evs.length+1:=by show(r.evs++[e]).length=_;rw[hJ];rfl
 have b:qk (addR r e K) (r.evs.length+1)=⟨p.out++qK 69 (evI (qa1 r.evs) e),p.pos,p.k⟩:=by
  show evP _ r.evs.length (qbu _ r.evs.length _)=_;rw[qky hK _ (iE _),qmE hK (iE _),<-hp];unfold evP;rw[if_pos (by rw[hl];omega)];show Pl.mk (_++qK 69 (evI (qQ (r.evs++[e]) r.evs.length) (ge (r.evs++[e]) r.evs.length))) _ _=_;rw[qia (iE _),qh0]
 have c:qh (addR r e K)=qbu (addR r e K) (r.evs.length+1) ⟨p.out++qK 69 (evI (qa1 r.evs) e),p.pos,p.k⟩:=by
  show qk _ ((addR r e K).evs.length+1)=_;rw[hl];show evP _ (r.evs.length+1) (qbu _ (r.evs.length+1) (qk _ (r.evs.length+1)))=_;rw[b];exact if_neg (by rw[hl];exact Nat.lt_irrefl _)
 rw[c];unfold qbu addO addR;dsimp only;rcases hK with rfl|⟨x,rfl⟩
 ·rw[if_neg (fun hh=>by have:=hh.1;rw[iH]at this;omega)]
  simp[hk]
 ·have hg:gky (r.keys++[⟨r.evs.length+1,x⟩]) p.k=⟨r.evs.length+1,x⟩:=by
   unfold gky;rw[hk,ik,iF (iE _),Nat.sub_self];rfl
  rw[if_pos ⟨by rw[hJ,jv];omega,by rw[hg]⟩,hg];simp[hk]
end
theorem qqD {T0:TS}{l:List Ev}{k:Nat}(h:k<l.length):∃K,KeyN (qcr T0 l k).evs.length K/\qcr T0 l (k+1)=addR (qcr T0 l k) (ge l k) K/\qqq ⟨qcr T0 l k,qaS T0 l k⟩ (ge l k)=addO (qcr T0 l k) (ge l k) K:=by
 have e:=congrArg Sc.r (qlr T0 l h);refine⟨if((qcr T0 l k).evs.length+1)% 8=0 then[⟨(qcr T0 l k).evs.length+1,qa0 (qae (qaS T0 l k) (ge l k))⟩]else[],?_,?_,?_⟩
 ·split
  ·exact .inr ⟨_,rfl⟩
  ·exact .inl rfl
 ·show(Sc.mk (qcr T0 l (k+1)) (qaS T0 l (k+1))).r=_
  rw[<-e];unfold addS addR;dsimp only;split<;>simp
 ·unfold qqq addO
  dsimp only;split<;>simp
theorem plB_k {T0:TS}{l:List Ev}:∀k,k<=l.length->(qh (qcr T0 l k)).k=(qcr T0 l k).keys.length
 |0,_=>(qmB (qa0 T0) 1).2
 |k+1,h=>by
  obtain⟨K,h1,h2,_⟩:=qqD (T0:=T0) (l:=l) (k:=k) (by omega)
  rw[h2]
  exact(qkz h1 (plB_k k (by omega))).2
theorem encB_add {T0:TS}{l:List Ev}{k:Nat}(h:k<l.length):qaK (qcr T0 l k) false++qqq ⟨qcr T0 l k,qaS T0 l k⟩ (ge l k)=qaK (qcr T0 l (k+1)) false:=by
 obtain⟨K,a,b,c⟩:=qqD (T0:=T0) (l:=l) h;rw[c,b];exact(qkz a (plB_k k (by omega))).1.symm
theorem encB_0 {T0:TS}{l:List Ev}:qaK (qcr T0 l 0) false=qK 83 (qa0 T0):=enc0 _
theorem bytV_of {l:List Int}(h:qat l):qe7 (qf l)=u8s l:=by
 conv=>rhs;rw[<-qgK h]
 unfold qe7 qaT u8s;rw[jB];rfl
section
variable {P:Program}{N:Nat}{ops:Array Oper}{Q:Exit->Act->World->Prop}{f:Fr}{k:Nat}{K:Act->World->Prop}{w w0:World}{F0:Nat->Prop}{l:List Asn}
theorem zTB (h:Sep w0 F0 w l)(ns:List Int)(hn:qat ns)(hK:∀w' b cap,ns.length<=cap->Sep w0 F0 w' (l++[roA [(some ⟨b,0,none⟩,ns)]])-> ∀a',Has N (pushd (dO ops k) (.slice (some ⟨b,0,none⟩) ns.length cap) f) a'->K a' w')
  (hs:qlT P N ops f k=some (qf ns,dO ops k):=by kernel_rfl):∀a,Has N f a->wpOp P ops Q k K a w:=by
 intro a ha;unfold qlT at hs;split at hs
 ·rename_i s t x d' ho
  split at hs
  ·rename_i e v c ht hx
   split at hs
   ·rename_i he
    simp only[ij,ib]at hs;obtain⟨rfl,hd⟩:=hs;rw[<-hd]at hK;refine qau ho ha fun o' d hd g=>?_;have hc:=run_bytes_of_string (P:=P) w s t e (qf ns) c ht he;have:(execOp a.eval o').run P w= .ok (.value (.slice (some ⟨w.heap.size,0,none⟩) (qf ns).size (grownCap w (qf ns).size 0 e))) (w.drew.alloc (.cells (bytesRow (qf ns) (grownCap w (qf ns).size 0 e)) e ((bytesRow (qf ns) (grownCap w (qf ns).size 0 e)).size,(bytesRow (qf ns) (grownCap w (qf ns).size 0 e)).size+1))):=by
     simp[execOp,d,qC ha hx,hc]
    simp only[Oper.wp,this,Oper.upon];rw[hd];have i:=qb7 ns;have m:Ch (fun _=>False) w (w.drew.alloc (.cells (bytesRow (qf ns) (grownCap w (qf ns).size 0 e)) e ((bytesRow (qf ns) (grownCap w (qf ns).size 0 e)).size,(bytesRow (qf ns) (grownCap w (qf ns).size 0 e)).size+1))):=(Ch.drew _ _).trans (Ch.alloc _ _ _) (fun _ _ h=>h);simp only[<-i]at hK;refine hK _ w.heap.size _ (grownCap_ge _ _ _ _) (h.add (A:=roA [(some ⟨w.heap.size,0,none⟩,ns)]) (G:=fun k=>k=w.heap.size) ?_ (fun k hk=>⟨by omega,by show k<(w.heap.push _).size;rw[Array.size_push];omega⟩) m) _ (ha.pushd g _);intro p hp;obtain rfl:=iA.1 hp;refine⟨⟨(fun ea=>by cases ea),fun ad ea j y hj=>?_⟩,fun ad e=>by cases e;rfl⟩;obtain rfl:=ia ea;rw[<-bytV_of hn]at hj;have hl:=(io.1 hj).1;rw[qg6]at hl;rw[qaZ,iJ];have hb:=heap_alloc_new w.drew (.cells (bytesRow (qf ns) (grownCap w (qf ns).size 0 e)) e ((bytesRow (qf ns) (grownCap w (qf ns).size 0 e)).size,(bytesRow (qf ns) (grownCap w (qf ns).size 0 e)).size+1));have n:w.drew.heap=w.heap:=rfl;rw[n]at hb;simp only[World.cell?,hb];unfold bytesRow;rw[Array.getElem?_append_left (by simpa using hl),<-hj];unfold qe7;simp
   ·cases hs
  ·cases hs
 ·cases hs
end
section
variable {w0 w w':World}{F0:Nat->Prop}{l:List Asn}{b sb:Nat}{q:Fl}{qu lf:Int}{s:Sc}{A:Asn}
theorem Sep.stR (h:Sep w0 F0 w l)(i:Nat)(hi:l[i]? =some (qJ sb ⟨some q,qu,false,lf,false⟩):=by rfl):∃x,StRd w sb ⟨some q,qu,false,lf,false⟩ x:=by
 obtain⟨F,hA,hF⟩:=h.at hi;exact stRd1 hA hF
theorem Sep.logR (h:Sep w0 F0 w l)(i:Nat)(hi:l[i]? =some (qgu fun _:Unit=>[qJ sb ⟨some q,qu,false,lf,false⟩,A]):=by rfl):∃x,StRd w sb ⟨some q,qu,false,lf,false⟩ x:=by
 obtain⟨_,h⟩:=(h.only hi fun _ h=>h).unpack 0;exact h.stR 1
theorem Sep.outD (h:Sep w0 F0 w l)(i:Nat)(hi:l[i]? =some (qhp b sb q qu lf s):=by rfl):∃x tl,Sep w0 F0 w (qJ sb ⟨some q,qu,false,lf,false⟩::recL b s.r x tl qaz):=by
 have h:=h.only hi fun _ h=>h;obtain⟨_,h⟩:=h.unpack 0;obtain⟨x,h⟩:=h.unpack 2;exact⟨x,wrD sb x.t,(h.ord [1,3,4,5,6,7]).eqv⟩
end
theorem crashD_0 (b sb:Nat)(r:Rc)(U:TS)(da:List Int)(qu lf:Int)(F:Nat->Prop)(w:World)(hA:(qhp b sb ⟨da,(da.length:Int)⟩ qu lf ⟨r,U⟩).P w F)(hg:Gz w F)(hz:da.length<=1000000000):CP 40 [.pointer (some ⟨sb,0,none⟩),.slice none 0 0].toArray w fun e w'=>e= .returned (.tuple #[])/\qe5 (qhp b sb ⟨da,(da.length:Int)⟩ qu lf ⟨r,U⟩) (qhp b sb ⟨da,(da.length:Int)⟩ qu lf ⟨r,U⟩) F w w':=by
 obtain⟨_,h⟩:=Sep.startA hA hg;refine(h.stepA hg 0 (fun F hA hF=>crash_0 sb ⟨da,(da.length:Int)⟩ qu lf false false F _ hA hF hz ⟨by dsimp only;omega,Int.le_refl _⟩)).mono ?_;rintro e w' ⟨he,h⟩;dsimp only at h;rw[show((da.length:Int)+min 0 ((da.length:Int)-(da.length:Int))).toNat=da.length by omega,jc]at h;exact⟨he,(Sep.pack (l:=[]) (L:=fun _:Unit=>[qJ sb ⟨some ⟨da,(da.length:Int)⟩,qu,false,lf,false⟩,qdL b sb ⟨r,U⟩]) () h).finS hg 0⟩
end Go.Proofs.YtjjcnhgpccancaaGreatDoor.X
