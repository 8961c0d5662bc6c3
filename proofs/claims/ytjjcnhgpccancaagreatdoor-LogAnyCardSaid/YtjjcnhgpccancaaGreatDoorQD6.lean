/- What the proofs of LogAny need, part 6: the walks of the program's functions and the plain laws about them. -/
import Derived.Test.YtjjcnhgpccancaaGreatDoorQD5
set_option linter.unusedSimpArgs false
set_option linter.unusedVariables false
set_option maxHeartbeats 4000000
namespace Go.Proofs.YtjjcnhgpccancaaGreatDoor.X
open Go Go.RowKit Go.Proofs.YtjjcnhgpccancaaGreatDoor
theorem qq2 (k:IntKind)(hk:k= .i64\/k= .u64){x:Int}(h0:0<=x)(h1:x<9223372036854775808)(i:Nat)(hi:i<64):((qf .and k (Int.fdiv x (2^min (i:Int).toNat (IntKind.bits k))) 1:Int)==1)=qeo x.toNat i:=by
 have:=bit_eq k hk (n:=x.toNat) (i:=i) (by omega) hi;rwa[ja h0]at this
theorem i63 {x:Int}(h:x<=9223372036854775807):x<9223372036854775808:=by omega
theorem qdG {x:Int}(h0:0<=x)(h1:x<9223372036854775808)(I:Int)(i:Nat)(hi:i<64)(hI:I=(i:Int)):((qf .and .i64 (Int.fdiv x (2^min I.toNat (IntKind.bits .i64))) 1:Int)==1)=qeo x.toNat i:=by
 subst hI;exact qq2 .i64 (.inl rfl) h0 h1 i hi
theorem qnD (tb:Nat):qfZ tb 0=qiA 7:=by funext i;simp[qfZ]
def qg4 (w h top bot n tb:Int)(k:Nat):TS:={qg0 w h top bot n tb with tabs:=qfZ tb.toNat k}
theorem TermIn.eqT {w:World}{t g o:Nat}{ba:Option Addr}{bn bc:Nat}{pa:Option Addr}{pn pc:Nat}{T T':TS}{F F1 F2 FB FP:Nat->Prop}(h:TermIn w t g o ba bn bc pa pn pc T F F1 F2 FB FP)(e:T=T'):TermIn w t g o ba bn bc pa pn pc T' F F1 F2 FB FP:=e▸h
def flK (w h top bot n:Int)(k:Nat):TS:={startT zeroT w h with top:=top,bot:=bot,wrap:=if 0<k then qeo n.toNat 0 else true,origin:=if 1<k then qeo n.toNat 1 else false,insert:=if 2<k then qeo n.toNat 2 else false,hidden:=if 3<k then qeo n.toNat 3 else false,alt:=if 4<k then qeo n.toNat 4 else false,draw0:=if 5<k then qeo n.toNat 5 else false,draw1:=if 6<k then qeo n.toNat 6 else false,shift:=if 7<k then qeo n.toNat 7 else false}
theorem flK_end (w h top bot n tb:Int):flK w h top bot n 8=qg4 w h top bot n tb 0:=by
 unfold qg4;rw[qnD];rfl
theorem qnE {w h top bot n tb:Int}{k:Nat}{v:Bool}(hv:v=qeo tb.toNat k):({qg4 w h top bot n tb k with tabs:=fun i=>if i=(k:Int).toNat then v else(qg4 w h top bot n tb k).tabs i}:TS)=qg4 w h top bot n tb (k+1):=by
 have:(fun i=>if i=(k:Int).toNat then v else qfZ tb.toNat k i)=qfZ tb.toNat (k+1):=by
  funext i;rw[ik,hv];unfold qfZ;by_cases h:i=k
  ·subst h;rw[if_pos rfl,if_pos (Nat.lt_succ_self i)]
  rw[if_neg h];by_cases a:i<k
  ·rw[if_pos a,if_pos (by omega)]
  rw[if_neg a,if_neg (by omega)]
 show({qg0 w h top bot n tb with tabs:=fun i=>if i=(k:Int).toNat then v else qfZ tb.toNat k i}:TS)=_;rw[this];rfl
theorem qq3 {sr rv D:Nat}{s0 s1:RS}{ot:Option TS}{w:World}(hS:SrIn w sr rv D true s0)(hT:LT w)(hr7:gTop<=rv)(hs7:gTop<=sr)(hH:qiU s0=(ot,s1)):CP 88 [pX sr].toArray w fun e w'=>
 ∃v,e= .returned v/\SrIn w' sr rv D true s1/\Ch (srB sr rv) w w'/\((ot=none/\v= .pointer none)\/ ∃t T,ot=some T/\v=pX t/\TermAt w' t T (fun b=>w.heap.size<=b/\b<w'.heap.size)):=by
 refine yA Tryz.func88 rfl<|yx 1<|ys<|qaK (· =rv) [9] (by kernel_rfl) (fun aR cV Z=>?_);have aS:Ch (srB sr rv) w aR:=zt (Ch.refl (srB sr rv) w) Z eZ;have a0:=hS.blk.ch Z id;have aT:=hS.rd.ch Z id id;refine ydC [0,1,2,3,5,6,7,8] [] (fun u hu=>(.l (qg hu (a0.c 0) hS.ne) (.l (qg hu (a0.c 0) hS.ne) .z))) ?_;obtain⟨j,al,I⟩:∃x s',qK (61) s0=(x,s'):=⟨_,_,rfl⟩
 have am:=qa6 (lim:=61) (s:=s0);rw[I]at am;dsimp only at am;refine yH 4 (yQ (qa7 (lim:=61) aT I (by omega)) ?_);rintro aU ⟨aV,a1⟩;have aW:Ch (srB sr rv) w aU:=zt aS a1 (fun _ _ h=> .inr h);have aX:=a0.ch a1 hS.ne;refine qB a1 iZ ?_;obtain⟨f,an,J⟩:∃x s',qK (61) al=(x,s'):=⟨_,_,rfl⟩
 have ao:=qa6 (lim:=61) (s:=al);rw[J]at ao;dsimp only at ao;refine yK 9 (yQ (qa7 (lim:=61) aV J (by omega)) ?_);rintro aY ⟨aZ,ap⟩;have b0:Ch (srB sr rv) w aY:=zt aW ap (fun _ _ h=> .inr h);have b1:=aX.ch ap hS.ne;refine q8<|yd [10,11] [] .z<|yDe (nS ?_);refine ys<|qaK (· =rv) [13] (by kernel_rfl) (fun b2 cW a2=>?_);have b3:Ch (srB sr rv) w b2:=zt b0 a2 eZ;have a3:=b1.ch a2 id;have b4:=aZ.ch a2 id id;refine ydC [0,1,2,3,4,5,7,8,9,10,11,12] [] (fun u hu=>(.l (qg hu (a3.c 0) hS.ne) (.q6 (f+1) (.l (qg hu (a3.c 0) hS.ne) (.q6 (f+1) .z))))) ?_;obtain⟨m,aq,K⟩:∃x s',qK ((f+1)) an=(x,s'):=⟨_,_,rfl⟩
 have ar:=qa6 (lim:=(f+1)) (s:=an);rw[K]at ar;dsimp only at ar;refine yH 6 (yQ (qa7 (lim:=(f+1)) b4 K (by omega)) ?_);rintro b5 ⟨b6,a4⟩;have b7:Ch (srB sr rv) w b5:=zt b3 a4 (fun _ _ h=> .inr h);have b8:=a3.ch a4 hS.ne;refine qB a4 iZ ?_;obtain⟨n,au,L⟩:∃x s',qK ((f+1)) aq=(x,s'):=⟨_,_,rfl⟩
 have av:=qa6 (lim:=(f+1)) (s:=aq);rw[L]at av;dsimp only at av;refine yK 13 (yQ (qa7 (lim:=(f+1)) b6 L (by omega)) ?_);rintro b9 ⟨bb,aw⟩;have bd:Ch (srB sr rv) w b9:=zt b7 aw (fun _ _ h=> .inr h);have bf:=b8.ch aw hS.ne;refine q8<|yd [14,15] [] .z<|yDe (nS ?_);refine ys<|qaK (· =rv) [9] (by kernel_rfl) (fun bg cX a5=>?_);have bh:Ch (srB sr rv) w bg:=zt bd a5 eZ;have a6:=bf.ch a5 id;have bi:=bb.ch a5 id id;refine ydC [0,1,2,3,5,6,7,8] [] (fun u hu=>(.l (qg hu (a6.c 0) hS.ne) (.l (qg hu (a6.c 0) hS.ne) .z))) ?_;obtain⟨d,ax,M⟩:∃x s',qK (256) au=(x,s'):=⟨_,_,rfl⟩
 have r:=qa6 (lim:=256) (s:=au);rw[M]at r;dsimp only at r;refine yH 4 (yQ (qa7 (lim:=256) bi M (by omega)) ?_);rintro bj ⟨bk,a7⟩;have bl:Ch (srB sr rv) w bj:=zt bh a7 (fun _ _ h=> .inr h);have bm:=a6.ch a7 hS.ne;refine qB a7 iZ ?_;obtain⟨y,a8,N⟩:∃x s',qK (1152921504606846976) ax=(x,s'):=⟨_,_,rfl⟩
 have U:=qa6 (lim:=1152921504606846976) (s:=ax);rw[N]at U;dsimp only at U;refine yK 9 (yQ (qa7 (lim:=1152921504606846976) bk N (by omega)) ?_);rintro bo ⟨ay,az⟩;have bp:Ch (srB sr rv) w bo:=zt bl az (fun _ _ h=> .inr h);have aA:=bm.ch az hS.ne;refine q8<|yd (uL 10 3) [10] (.p (q:=InR .u64 y) (qan (by omega) (by omega)) .z)<|yDe (nS ?_);refine ys<|ysr<|yp 4 [] (.l (aA.c 0) .z)<|yo (yQ (qgl ay) fun V a9=>?_);have F:Ch (srB sr rv) w V:=zt bp a9 eZ;have O:=aA.ch a9 id;have P:=ay.ch a9 id id;refine yq 7<|yw [55] (rN (rY a8.isSome)) (fun aa=>?_) fun aa=>?_
 ·have bq:=aa;refine yz 19<|yct<|yx 1<|q9 (rS (yR1 (.pointer none) ?_));rw[qd6 I J K L M N]at hH;rw[if_pos (.inl bq)]at hH;simp only[ib]at hH;obtain⟨rfl,rfl⟩:=hH;exact⟨_,rfl,⟨O,P,hS.ne,hS.nd⟩,F,.inl ⟨rfl,rfl⟩⟩
 have br:=aa;refine yq 11<|yw [59] (rL j 1) (fun ab=>?_) fun ab=>?_
 ·have cY:=ab;refine yz 19<|yct<|yx 1<|q9 (rS (yR1 (.pointer none) ?_));rw[qd6 I J K L M N]at hH;rw[if_pos (.inr (.inl (by omega)))]at hH;simp only[ib]at hH;obtain⟨rfl,rfl⟩:=hH;exact⟨_,rfl,⟨O,P,hS.ne,hS.nd⟩,F,.inl ⟨rfl,rfl⟩⟩
 have cZ:=ab;refine yq 15<|yw [63] (rL f 1) (fun ac=>?_) fun ac=>?_
 ·have d0:=ac;refine yz 19<|yct<|yx 1<|q9 (rS (yR1 (.pointer none) ?_));rw[qd6 I J K L M N]at hH;rw[if_pos (.inr (.inr (.inl (by omega))))]at hH;simp only[ib]at hH;obtain⟨rfl,rfl⟩:=hH;exact⟨_,rfl,⟨O,P,hS.ne,hS.nd⟩,F,.inl ⟨rfl,rfl⟩⟩
 have d1:=ac;refine yz 19<|yc (rM n m) (fun ad=>?_) fun ad=>?_
 ·have d2:=ad;refine yx 1<|q9 (rS (yR1 (.pointer none) ?_));rw[qd6 I J K L M N]at hH;rw[if_pos (.inr (.inr (.inr (by omega))))]at hH;simp only[ib]at hH;obtain⟨rfl,rfl⟩:=hH;exact⟨_,rfl,⟨O,P,hS.ne,hS.nd⟩,F,.inl ⟨rfl,rfl⟩⟩
 have d3:=ad;refine yk<|ysr<|yq 2<|yo (yC (qiJ j f _ (qaI F hT (fun b h=>h.elim (fun(h:b=sr)=>by omega) (fun(h:b=rv)=>by omega))) (by have:=hS.rd.lt;have:=zzs F;omega)) ?_);rintro _ C ⟨t,rfl,bs,ae⟩;refine⟨_,rfl,?_⟩;have d4:gTop<=w.heap.size:=by have:=hS.rd.lt;omega
 obtain⟨g,o,ba,bn,bc,pa,pn,pc,Q,R,FB,FP,hI⟩:=bs;have bt:=hI.inF.1.1;have G:w.heap.size<=t:=im (zzs F) bt;have bu:Ch (srB sr rv) w C:=zt F ae eZ;have bv:=O.ch ae id;have bw:=P.ch ae id id;refine yz 4<|ysr<|yq 6<|yo (yS hI.blk fun bx bz bA=>?_);have bB:Ch (· =t) C bx:=zt (Ch.refl (· =t) C) bA iZ;have bC:Blk _ t (TS.vals ({(startT zeroT j f)with top:=m}:TS) g o (.slice ba bn bc) (.slice pa pn pc)) qat:=Blk.to bz (by kernel_rfl);refine yq 9<|yo (yS bC fun bD bE bF=>?_);have bG:Ch (· =t) C bD:=zt bB bF iZ;have bH:Blk _ t (TS.vals ({(startT zeroT j f)with top:=m,bot:=n}:TS) g o (.slice ba bn bc) (.slice pa pn pc)) qat:=Blk.to bE (by kernel_rfl);refine ye<|ys<|yD [27,28] fun bI d5 aB=>?_;have aC:Ch (· =t) C bI:=zt bG aB eZ;have aD:=bH.ch aB id;refine ydT (uL 0 27) [] rfl (fun _=>(.i 0 (2) (.i 1 (2) .z)))<|yK 27 (yN [.pointer none,.pointer none,.pointer none,.pointer none,.pointer none,.pointer none,.pointer none,.pointer none] 196 fun bJ af bK d6 bL aE=>?_);have bM:Ch (· =t) C bJ:=zt aC aE eZ;have bN:C.heap.size<=af:=by rw[bK];exact zzs aC
 have bO:=aD.ch aE id;refine q8<|yK 28 (yT [.pointer (some ⟨t,88,none⟩),.pointer (some ⟨t,89,none⟩),.pointer (some ⟨t,90,none⟩),.pointer (some ⟨t,91,none⟩),.pointer (some ⟨t,95,none⟩),.pointer (some ⟨t,92,none⟩),.pointer (some ⟨t,93,none⟩),.pointer (some ⟨t,94,none⟩)] bL fun bP bQ aF=>?_);have aG:Ch (· =t) C bP:=zt bM aF (fun i hi (h:i=af)=>by have:=bN;omega);have bR:=bO.ch aF (fun(h:t=af)=>by have:=aD.lt;omega);refine q8<|yDe (nS ?_);refine qaO ([(8,.int .u64 y),(9,pX t)]) (fun u=>TermIn u t g o ba bn bc pa pn pc (qg4 j f m n d y 0) (fun b=>V.heap.size<=b/\b<C.heap.size) Q R FB FP/\Blk u sr [pX rv,.bool true] tSr/\RdrAt u rv D a8/\Ch (srB sr rv) w u) (fun d7 bS=>?_) (fun u138 bT=>?_)
 ·refine ysr<|yp 2 [] (.a (bQ.cs 0 8) .z)<|ye<|qa ?_;have bU:=hI.scalar (T':=({(startT zeroT j f)with top:=m,bot:=n}:TS)) aG bR rfl rfl rfl rfl;refine qZ [7,8,9,106,107] (f':=[(7,iX d),(8,.int .u64 y),(9,pX t),(106,.agg #[.pointer (some ⟨t,88,none⟩),.pointer (some ⟨t,89,none⟩),.pointer (some ⟨t,90,none⟩),.pointer (some ⟨t,91,none⟩),.pointer (some ⟨t,95,none⟩),.pointer (some ⟨t,92,none⟩),.pointer (some ⟨t,93,none⟩),.pointer (some ⟨t,94,none⟩)]),(107,iX 0)])<|qy (σ:=Nat) (fun k=>[(7,iX d),(8,.int .u64 y),(9,pX t),(106,.agg #[.pointer (some ⟨t,88,none⟩),.pointer (some ⟨t,89,none⟩),.pointer (some ⟨t,90,none⟩),.pointer (some ⟨t,91,none⟩),.pointer (some ⟨t,95,none⟩),.pointer (some ⟨t,92,none⟩),.pointer (some ⟨t,93,none⟩),.pointer (some ⟨t,94,none⟩)]),(107,iX (k:Int))]) (fun k u=>k<=8/\TermIn u t g o ba bn bc pa pn pc (flK j f m n d k) (fun b=>V.heap.size<=b/\b<C.heap.size) Q R FB FP/\Ch (· =t) C u) (fun k=>8-k) 0 rfl ?_ ?_
  ·exact⟨ip _,TermIn.eqT bU rfl,aG⟩
  intro k B bV d8 H;obtain⟨d9,A,E⟩:=bV;refine yx 1<|ys<|yc (rL (k:Int) 8) (fun ag=>?_) fun ag=>?_
  ·have da:=ag;rcases(by omega:k=0\/k=1\/k=2\/k=3\/k=4\/k=5\/k=6\/k=7)with rfl|rfl|rfl|rfl|rfl|rfl|rfl|rfl
   ·refine yk<|ys<|qa<|yx 4<|q7<|yp 7 [] (.p (q:=0<=(0:Int)) (by omega) .z)<|yo (yS A.blk fun bW bX bY=>?_);have aH:Ch (· =t) B bW:=zt (Ch.refl (· =t) B) bY iZ;have bZ:Blk _ t (TS.vals ({(flK j f m n d 0)with wrap:=(((qf .and .i64 (Int.fdiv d (2^min (0:Int).toNat (IntKind.bits .i64))) 1):Int)==1)}:TS) g o (.slice ba bn bc) (.slice pa pn pc)) qat:=Blk.to bX (by kernel_rfl);refine yE (nB (nS ?_));refine q7<|yp 2 [] (.q6 1 .z) ?_;have c0:=A.scalar (T':=({(flK j f m n d 0)with wrap:=(((qf .and .i64 (Int.fdiv d (2^min (0:Int).toNat (IntKind.bits .i64))) 1):Int)==1)}:TS)) aH bZ rfl rfl rfl rfl;refine yE (fun a ha=>H 1 _ ⟨by decide,TermIn.eqT c0 (by rw[qdG r.1 (i63 r.2.1) 0 0 (by decide) rfl];rfl),zt E aH iZ⟩ (by show 8-(0+1)<8-0;omega) a (ha.kp [7,8,9,106,107]))
   ·refine yk<|ys<|qa<|yx 4<|q7<|yp 7 [] (.p (q:=0<=(1:Int)) (by omega) .z)<|yo (yS A.blk fun c1 c2 c3=>?_);have aI:Ch (· =t) B c1:=zt (Ch.refl (· =t) B) c3 iZ;have c4:Blk _ t (TS.vals ({(flK j f m n d 1)with origin:=(((qf .and .i64 (Int.fdiv d (2^min (1:Int).toNat (IntKind.bits .i64))) 1):Int)==1)}:TS) g o (.slice ba bn bc) (.slice pa pn pc)) qat:=Blk.to c2 (by kernel_rfl);refine yE (nB (nS ?_));refine q7<|yp 2 [] (.q6 2 .z) ?_;have c5:=A.scalar (T':=({(flK j f m n d 1)with origin:=(((qf .and .i64 (Int.fdiv d (2^min (1:Int).toNat (IntKind.bits .i64))) 1):Int)==1)}:TS)) aI c4 rfl rfl rfl rfl;refine yE (fun a ha=>H 2 _ ⟨by decide,TermIn.eqT c5 (by rw[qdG r.1 (i63 r.2.1) 1 1 (by decide) rfl];rfl),zt E aI iZ⟩ (by show 8-(1+1)<8-1;omega) a (ha.kp [7,8,9,106,107]))
   ·refine yk<|ys<|qa<|yx 4<|q7<|yp 7 [] (.p (q:=0<=(2:Int)) (by omega) .z)<|yo (yS A.blk fun c6 c7 c8=>?_);have aJ:Ch (· =t) B c6:=zt (Ch.refl (· =t) B) c8 iZ;have c9:Blk _ t (TS.vals ({(flK j f m n d 2)with insert:=(((qf .and .i64 (Int.fdiv d (2^min (2:Int).toNat (IntKind.bits .i64))) 1):Int)==1)}:TS) g o (.slice ba bn bc) (.slice pa pn pc)) qat:=Blk.to c7 (by kernel_rfl);refine yE (nB (nS ?_));refine q7<|yp 2 [] (.q6 3 .z) ?_;have ca:=A.scalar (T':=({(flK j f m n d 2)with insert:=(((qf .and .i64 (Int.fdiv d (2^min (2:Int).toNat (IntKind.bits .i64))) 1):Int)==1)}:TS)) aJ c9 rfl rfl rfl rfl;refine yE (fun a ha=>H 3 _ ⟨by decide,TermIn.eqT ca (by rw[qdG r.1 (i63 r.2.1) 2 2 (by decide) rfl];rfl),zt E aJ iZ⟩ (by show 8-(2+1)<8-2;omega) a (ha.kp [7,8,9,106,107]))
   ·refine yk<|ys<|qa<|yx 4<|q7<|yp 7 [] (.p (q:=0<=(3:Int)) (by omega) .z)<|yo (yS A.blk fun cb cc cd=>?_);have aK:Ch (· =t) B cb:=zt (Ch.refl (· =t) B) cd iZ;have ce:Blk _ t (TS.vals ({(flK j f m n d 3)with hidden:=(((qf .and .i64 (Int.fdiv d (2^min (3:Int).toNat (IntKind.bits .i64))) 1):Int)==1)}:TS) g o (.slice ba bn bc) (.slice pa pn pc)) qat:=Blk.to cc (by kernel_rfl);refine yE (nB (nS ?_));refine q7<|yp 2 [] (.q6 4 .z) ?_;have cf:=A.scalar (T':=({(flK j f m n d 3)with hidden:=(((qf .and .i64 (Int.fdiv d (2^min (3:Int).toNat (IntKind.bits .i64))) 1):Int)==1)}:TS)) aK ce rfl rfl rfl rfl;refine yE (fun a ha=>H 4 _ ⟨by decide,TermIn.eqT cf (by rw[qdG r.1 (i63 r.2.1) 3 3 (by decide) rfl];rfl),zt E aK iZ⟩ (by show 8-(3+1)<8-3;omega) a (ha.kp [7,8,9,106,107]))
   ·refine yk<|ys<|qa<|yx 4<|q7<|yp 7 [] (.p (q:=0<=(4:Int)) (by omega) .z)<|yo (yS A.blk fun cg ci cj=>?_);have aL:Ch (· =t) B cg:=zt (Ch.refl (· =t) B) cj iZ;have ck:Blk _ t (TS.vals ({(flK j f m n d 4)with alt:=(((qf .and .i64 (Int.fdiv d (2^min (4:Int).toNat (IntKind.bits .i64))) 1):Int)==1)}:TS) g o (.slice ba bn bc) (.slice pa pn pc)) qat:=Blk.to ci (by kernel_rfl);refine yE (nB (nS ?_));refine q7<|yp 2 [] (.q6 5 .z) ?_;have cl:=A.scalar (T':=({(flK j f m n d 4)with alt:=(((qf .and .i64 (Int.fdiv d (2^min (4:Int).toNat (IntKind.bits .i64))) 1):Int)==1)}:TS)) aL ck rfl rfl rfl rfl;refine yE (fun a ha=>H 5 _ ⟨by decide,TermIn.eqT cl (by rw[qdG r.1 (i63 r.2.1) 4 4 (by decide) rfl];rfl),zt E aL iZ⟩ (by show 8-(4+1)<8-4;omega) a (ha.kp [7,8,9,106,107]))
   ·refine yk<|ys<|qa<|yx 4<|q7<|yp 7 [] (.p (q:=0<=(5:Int)) (by omega) .z)<|yo (yS A.blk fun cm cn co=>?_);have aM:Ch (· =t) B cm:=zt (Ch.refl (· =t) B) co iZ;have cp:Blk _ t (TS.vals ({(flK j f m n d 5)with draw0:=(((qf .and .i64 (Int.fdiv d (2^min (5:Int).toNat (IntKind.bits .i64))) 1):Int)==1)}:TS) g o (.slice ba bn bc) (.slice pa pn pc)) qat:=Blk.to cn (by kernel_rfl);refine yE (nB (nS ?_));refine q7<|yp 2 [] (.q6 6 .z) ?_;have cq:=A.scalar (T':=({(flK j f m n d 5)with draw0:=(((qf .and .i64 (Int.fdiv d (2^min (5:Int).toNat (IntKind.bits .i64))) 1):Int)==1)}:TS)) aM cp rfl rfl rfl rfl;refine yE (fun a ha=>H 6 _ ⟨by decide,TermIn.eqT cq (by rw[qdG r.1 (i63 r.2.1) 5 5 (by decide) rfl];rfl),zt E aM iZ⟩ (by show 8-(5+1)<8-5;omega) a (ha.kp [7,8,9,106,107]))
   ·refine yk<|ys<|qa<|yx 4<|q7<|yp 7 [] (.p (q:=0<=(6:Int)) (by omega) .z)<|yo (yS A.blk fun cr ct cu=>?_);have aN:Ch (· =t) B cr:=zt (Ch.refl (· =t) B) cu iZ;have cv:Blk _ t (TS.vals ({(flK j f m n d 6)with draw1:=(((qf .and .i64 (Int.fdiv d (2^min (6:Int).toNat (IntKind.bits .i64))) 1):Int)==1)}:TS) g o (.slice ba bn bc) (.slice pa pn pc)) qat:=Blk.to ct (by kernel_rfl);refine yE (nB (nS ?_));refine q7<|yp 2 [] (.q6 7 .z) ?_;have cw:=A.scalar (T':=({(flK j f m n d 6)with draw1:=(((qf .and .i64 (Int.fdiv d (2^min (6:Int).toNat (IntKind.bits .i64))) 1):Int)==1)}:TS)) aN cv rfl rfl rfl rfl;refine yE (fun a ha=>H 7 _ ⟨by decide,TermIn.eqT cw (by rw[qdG r.1 (i63 r.2.1) 6 6 (by decide) rfl];rfl),zt E aN iZ⟩ (by show 8-(6+1)<8-6;omega) a (ha.kp [7,8,9,106,107]))
   refine yk<|ys<|qa<|yx 4<|q7<|yp 7 [] (.p (q:=0<=(7:Int)) (by omega) .z)<|yo (yS A.blk fun cx cy cz=>?_);have aO:Ch (· =t) B cx:=zt (Ch.refl (· =t) B) cz iZ;have cA:Blk _ t (TS.vals ({(flK j f m n d 7)with shift:=(((qf .and .i64 (Int.fdiv d (2^min (7:Int).toNat (IntKind.bits .i64))) 1):Int)==1)}:TS) g o (.slice ba bn bc) (.slice pa pn pc)) qat:=Blk.to cy (by kernel_rfl);refine yE (nB (nS ?_));refine q7<|yp 2 [] (.q6 8 .z) ?_;have cB:=A.scalar (T':=({(flK j f m n d 7)with shift:=(((qf .and .i64 (Int.fdiv d (2^min (7:Int).toNat (IntKind.bits .i64))) 1):Int)==1)}:TS)) aO cA rfl rfl rfl rfl;refine yE (fun a ha=>H 8 _ ⟨by decide,TermIn.eqT cB (by rw[qdG r.1 (i63 r.2.1) 7 7 (by decide) rfl];rfl),zt E aO iZ⟩ (by show 8-(7+1)<8-7;omega) a (ha.kp [7,8,9,106,107]))
  have db:=ag;have cC:k=8:=by omega
  subst cC;refine ql (eS (qd (qb (fun a ha=>bS _ ⟨TermIn.eqT A (flK_end j f m n d y),bv.ch E (fun(h:sr=t)=>by have:=G;have:=hS.blk.lt;omega),bw.ch E (fun(h:rv=t)=>by have:=G;have:=hS.rd.lt;omega) (fun(h:D=t)=>by have:=G;have:=hS.rd.dlt;omega),zt bu E (fun i hi (h:i=t)=>by have:=G;omega)⟩ a (ha.kp [8,9])))))
 obtain⟨cD,cE,cF,cG⟩:=bT;refine ys<|yx 1<|qa<|qZ [8,9,119] (f':=[(8,.int .u64 y),(9,pX t),(119,iX 0)])<|qy (σ:=Nat) (fun k=>[(8,.int .u64 y),(9,pX t),(119,iX (k:Int))]) (fun k u=>k<=60/\TermIn u t g o ba bn bc pa pn pc (qg4 j f m n d y k) (fun b=>V.heap.size<=b/\b<C.heap.size) Q R FB FP/\Blk u sr [pX rv,.bool true] tSr/\RdrAt u rv D a8/\Ch (srB sr rv) w u) (fun k=>60-k) 0 rfl ?_ ?_
 ·exact⟨ip _,cD,cE,cF,cG⟩
 intro k W cH dc cI;obtain⟨hk,X,hB,hR,ah⟩:=cH;refine yx 1<|ys<|yc (rL (k:Int) 60) (fun ai=>?_) fun ai=>?_
 ·have dd:=ai;refine yk<|ys<|qa<|yx 2<|yD [10] fun aP de S=>?_;have cJ:Ch (srB sr rv) w aP:=zt ah S eZ;have cK:Ch (· =t) W aP:=zt (Ch.refl (· =t) W) S eZ;have cL:=X.blk.ch S id;have cM:=hB.ch S id;have cN:=hR.ch S id id;refine yd (uL 0 10) [] (.p (q:=0<=((k:Int):Int)) (by omega) (.i (k:Int) (60) .z))<|yK 10 (qaN (28+((k:Int):Int).toNat*1) [.bool (((qf .and .u64 (Int.fdiv y (2^min ((k:Int):Int).toNat (IntKind.bits .u64))) 1):Int)==1)] none (by kernel_rfl) cL (by rw[qcj];simp only[iy,iP];omega) ?_);intro aj ak Y;replace ak:Blk aj t (TS.vals ({(qg4 j f m n d y k)with tabs:=(fun i=>if i=((k:Int):Int).toNat then(((qf .and .u64 (Int.fdiv y (2^min ((k:Int):Int).toNat (IntKind.bits .u64))) 1):Int)==1)else(qg4 j f m n d y k).tabs i)}:TS) g o (.slice ba bn bc) (.slice pa pn pc)) qat:=Blk.to ak (qgb (qg4 j f m n d y k) _ _ _ _ _ (by omega) _);have cO:Ch (srB sr rv) w aj:=zt cJ Y (fun i hi (h:i=t)=>by have:=G;omega);have cP:Ch (· =t) W aj:=zt cK Y iZ;have cQ:=cM.ch Y (fun(h:sr=t)=>by have:=G;have:=hS.blk.lt;omega);have cR:=cN.ch Y (fun(h:rv=t)=>by have:=G;have:=hS.rd.lt;omega) (fun(h:D=t)=>by have:=G;have:=hS.rd.dlt;omega);refine q8<|yDe (nB (nS ?_));refine q7<|yp 2 [] (.q6 ((k:Int)+1) .z) ?_
  have cS:=X.scalar (T':=({(qg4 j f m n d y k)with tabs:=(fun i=>if i=((k:Int):Int).toNat then(((qf .and .u64 (Int.fdiv y (2^min ((k:Int):Int).toNat (IntKind.bits .u64))) 1):Int)==1)else(qg4 j f m n d y k).tabs i)}:TS)) cP ak rfl rfl rfl rfl;have aQ:=cS;rw[qnE (qq2 .u64 (.inr rfl) U.1 (i63 U.2.1) k (by omega))]at aQ;refine yE (fun a ha=>cI (k+1) _ ⟨by omega,aQ,cQ,cR,cO⟩ (by show 60-(k+1)<60-k;omega) a (ha.kp [8,9,119]))
 have df:=ai;refine ql (eS (qd (qb (nS ?_))));refine yx 2<|q9 (yR1 (pX t) ?_);rw[qd6 I J K L M N]at hH;rw[if_neg (by rintro (h|h|h|h);exact absurd (br.symm.trans h) (by decide);omega;omega;omega)]at hH;simp only[ib]at hH;obtain⟨rfl,rfl⟩:=hH;have cT:k=60:=by omega
 subst cT;have dg:=zzs F;have cU:=X.lt;have dh:=zzs ah;exact⟨_,rfl,⟨hB,hR,hS.ne,hS.nd⟩,ah,.inr ⟨t,_,rfl,rfl,TermAt.mono ⟨g,o,ba,bn,bc,pa,pn,pc,Q,R,FB,FP,(show TermIn _ t g o ba bn bc pa pn pc (qg0 j f m n d y) _ Q R FB FP from X)⟩ (fun b hb=>⟨by have:=hb.1;omega,by have:=cU b hb;have:=zzs (Ch.refl (· =t) W);omega⟩) (fun b hb=>⟨hb.2,by have:=hb.1;omega⟩)⟩⟩
theorem qgr {T:TS}{W H:Int}{s s1 s2 s3 s4 s5 s6 s7 s8 s9:RS}{a b c:Cur}{ha hb hc f4 f5 f6 f9:Bool}{d e k:List (List Cel)}{t r:ByteArray}{p:PS}
  (h1:qjd W H s=(a,ha,s1)) (h2:qjd W H s1=(b,hb,s2)) (h3:qjd W H s2=(c,hc,s3)) (h4:qap W H.toNat [] s3 ((ha&&hb)&&hc)=(d,s4,f4)) (h5:qap W H.toNat [] s4 f4=(e,s5,f5)) (h6:qfY s5 f5=(k,s6,f6))
  (h7:qaU 40 s6=(t,s7)) (h8:qaU 400 s7=(r,s8)) (h9:qiT s8 f6=(p,s9,f9)):
  qkd T W H s=if f9=true/\s9=some []then some {T with cursor:=a,saved:=b,away:=c,grid:=⟨W,H,d⟩,other:=⟨W,H,e⟩,back:=k,title:=t,reply:=r,parser:=p}else none:=by
 unfold qkd;rw[h1];dsimp only;rw[h2];dsimp only;rw[h3];dsimp only;rw[h4];dsimp only;rw[h5];dsimp only;rw[h6];dsimp only;rw[h7];dsimp only;rw[h8];dsimp only;rw[h9]
def qnF (x:RowO):Row:=⟨x.b.getD 0,x.n,x.cap,x.l⟩
section
variable {w:World}{m n cap:Nat}{o:Option Nat}{rows:List RowO}
theorem RowsO.some (h:RowsO w m rows){x:RowO}(hx:x∈rows)(hl:0<x.l.length):∃b,x.b=Option.some b:=by
 obtain⟨a,c⟩:=h.line x hx;exact qh4 a (by omega)
theorem RowsO.val (h:RowsO w m rows)(hl:∀x∈rows,0<x.l.length):rows.map RowO.val=(rows.map qnF).map Row.val:=by
 rw[jG];refine jA fun x hx=>?_;obtain⟨b,hb⟩:=h.some hx (hl x hx);show Value.slice (x.b.map at0) x.n x.cap=Value.slice (Option.some ⟨x.b.getD 0,0,none⟩) x.n x.cap;rw[hb];rfl
theorem RowsO.each (h:RowsO w m rows)(hl:∀x∈rows,0<x.l.length):∀y∈rows.map qnF,(LineAt w y.b y.l y.cap/\y.l.length=y.n)/\m<=y.b/\ ∃x∈rows,x.b=Option.some y.b:=fun y hy=>by
 obtain⟨x,hx,rfl⟩:=j9.1 hy
 obtain⟨b,hb⟩:=h.some hx (hl x hx)
 obtain⟨h1,h2⟩:=h.line x hx
 have e:(qnF x).b=b:=by show x.b.getD 0=b;rw[hb];rfl
 refine⟨⟨?_,h2⟩,?_,x,hx,by rw[e,hb]⟩
 ·unfold LineAt
  rw[e]
  show Own w qdl 6 (Option.some b) x.l.length x.cap (qaq x.l)
  rw[h2,<-hb]
  exact h1
 ·rw[e];exact h.lo x hx b hb
theorem RowsO.nodup (h:RowsO w m rows)(hl:∀x∈rows,0<x.l.length):((rows.map qnF).map Row.b).Nodup:=by
 rw[jG];refine List.pairwise_map.2 (h.nd.imp_of_mem fun{x y} hx hy hxy=>?_);obtain⟨b,hb⟩:=h.some hx (hl x hx);obtain⟨c,hc⟩:=h.some hy (hl y hy);show¬x.b.getD 0=y.b.getD 0;rw[hb,hc];intro e;refine hxy b hb ?_;rw[hc];exact congrArg Option.some e.symm
theorem OutO.grid (h:OutO w m o n cap rows){g:Nat}{W H:Int}(hg:Blk w g [.int .i64 W,.int .i64 H,.slice (o.map at0) n cap] qgx)(hgm:g<m)(hW:1<=W/\W<=60)(hH:1<=H/\H<=60)(hn:rows.length=H.toNat)(hl:∀x∈rows,(x.l.length:Int)=W)
  {F:Nat->Prop} (hF:F g/\(∀b,o=some b->F b)/\ ∀x∈rows,∀b,x.b=some b->F b) (hlt:∀b,F b->b<w.heap.size) (hhi:∀b,F b->gTop<=b):GridAt w g ⟨W,H,rows.map RowO.l⟩ F:=by
 have a:∀x∈rows,0<x.l.length:=fun x hx=>by have:=hl x hx;omega
 have c:=h.len;obtain⟨r,rfl⟩:=qh4 h.own (by omega);have f:=h.lo r rfl;have hR:=h.rs.each a;refine⟨r,cap,rows.map qnF,?_⟩;exact
 {head:=by rw[hZ,c];exact hg
  body:=by rw[hZ,c,<-h.rs.val a];exact h.own
  line:=fun y hy=>(hR y hy).1
  lines:=by rw[jG];rfl
  ok:=⟨hW,hH,by rw[hZ];exact hn,fun l d=>by
   obtain⟨x,hx,rfl⟩:=j9.1 d;have:=hl x hx;show x.l.length=W.toNat;omega⟩
  gr:=by omega
  gb:=fun y hy=>by
   obtain⟨_,i,x,hx,hb⟩:=hR y hy;exact⟨by omega,fun e=>h.off h.own x hx _ hb (by rw[e])⟩
  nodup:=h.rs.nodup a
  inF:=⟨hF.1,hF.2.1 r rfl,fun y hy=>by obtain⟨_,_,x,hx,hb⟩:=hR y hy;exact hF.2.2 x hx _ hb⟩
  lt:=hlt
  hi:=hhi}
theorem OutO.linesAt (h:OutO w m o n cap rows)(hl:∀x∈rows,0<x.l.length){K:Nat->Prop}(hK:(∀b,o=some b->K b)/\ ∀x∈rows,∀b,x.b=some b->K b)(hlt:∀b,K b->b<w.heap.size)(hhi:∀b,K b->gTop<=b):LinesAt w (o.map at0) n (rows.map qnF) K:=by
 have hR:=h.rs.each hl;exact
 {rd:=by rw[<-h.rs.val hl];exact h.own.rd
  len:=by rw[hZ];exact h.len
  line:=fun y hy=>(hR y hy).1
  inK:=fun y hy=>by obtain⟨_,_,x,hx,hb⟩:=hR y hy;exact hK.2 x hx _ hb
  aK:=fun ad e=>by
   cases o with
   |none=>cases e
   |some b=>cases e;exact hK.1 b rfl
  lt:=hlt
  hi:=hhi}
end
structure Under (o:Option Nat)(rows:List RowO)(m:Nat):Prop where
 o:∀b,o=some b->b<m
 r:∀x∈rows,∀b,x.b=some b->b<m
theorem OutO.under {w:World}{m n cap:Nat}{o:Option Nat}{rows:List RowO}(h:OutO w m o n cap rows):Under o rows w.heap.size:=
 ⟨fun b e=>by have:=h.own;rw[e]at this;exact this.lt,fun x hx b e=>h.rs.lt x hx b e⟩
theorem term_of {w:World}{t g q m0 m1 m2 m3 m4 n1 c1 n2 c2 n3 c3 n4 c4:Nat}{o1 o2 o3 o4:Option Nat}{r1 r2 r3:List RowO}{T:TS}(hd:DecOk T)
  (hb:Blk w t (T.vals g q (.slice (o3.map at0) n3 c3) (.slice (o4.map at0) n4 c4)) qat)
  (hg:Blk w g [.int .i64 T.grid.w,.int .i64 T.grid.h,.slice (o1.map at0) n1 c1] qgx) (hq:Blk w q [.int .i64 T.grid.w,.int .i64 T.grid.h,.slice (o2.map at0) n2 c2] qgx)
  (h1:OutO w m1 o1 n1 c1 r1) (h2:OutO w m2 o2 n2 c2 r2) (h3:OutO w m3 o3 n3 c3 r3) (h4:Own w tI 1 o4 n4 c4 (T.parser.params.map (Value.int .i64))) (l4:∀b,o4=some b->m4<=b)
  (e1:T.grid.lines=r1.map RowO.l) (e2:T.other.lines=r2.map RowO.l) (e3:T.back=r3.map RowO.l)
  (k1:Under o1 r1 m2) (k2:Under o2 r2 m3) (k3:Under o3 r3 m4) (h7:gTop<=m0) (ht:m0<=t/\t<m1) (hgm:m0<=g/\g<m1) (hqm:m0<=q/\q<m1) (htg:¬t=g) (htq:¬t=q) (hgq:¬g=q) (hm:m1<=m2/\m2<=m3/\m3<=m4/\m4<=w.heap.size):
  TermAt w t T (fun b=>m0<=b/\b<w.heap.size):=by
 obtain⟨⟨y,z,A⟩,⟨a,B,C⟩,cu,sa,aw,D,E,G,wr,og,H,I,J,L,sh,al,ti,bk,pp,re⟩:=T;have u3:=h3.under;have hw:=hd.w;have hh:=hd.h;obtain⟨c,d⟩:=hd.o;have g1:=hd.g;have g2:=hd.g2;have f:=hd.k;dsimp only at*;subst e1 e2 e3 c d;have i:∀x∈r1,(x.l.length:Int)=a:=fun x hx=>(g1.2 _ (ji hx)).1;have j:∀x∈r2,(x.l.length:Int)=a:=fun x hx=>(g2.2 _ (ji hx)).1;have p:∀x∈r3,0<x.l.length:=fun x hx=>(f.2 _ (ji hx)).1;have s:=h1.grid hg (by omega) hw hh (by have:=g1.1;rwa[hZ]at this) i (F:=fun b=>b=g\/(m1<=b/\b<m2)) ⟨.inl rfl,fun b e=> .inr ⟨h1.lo b e,k1.o b e⟩,fun x hx b e=> .inr ⟨h1.rs.lo x hx b e,k1.r x hx b e⟩⟩ (fun b hb=>by omega) (fun b hb=>by omega);have u:=h2.grid hq (by omega) hw hh (by have:=g2.1;rwa[hZ]at this) j (F:=fun b=>b=q\/(m2<=b/\b<m3)) ⟨.inl rfl,fun b e=> .inr ⟨h2.lo b e,k2.o b e⟩,fun x hx b e=> .inr ⟨h2.rs.lo x hx b e,k2.r x hx b e⟩⟩ (fun b hb=>by omega) (fun b hb=>by omega);have v:=h3.linesAt p (K:=fun b=>m3<=b/\b<m4) ⟨fun b e=>⟨h3.lo b e,k3.o b e⟩,fun x hx b e=>⟨h3.rs.lo x hx b e,k3.r x hx b e⟩⟩ (fun b hb=>by omega) (fun b hb=>by omega);refine⟨g,q,o3.map at0,n3,c3,o4.map at0,n4,c4,fun b=>b=g\/(m1<=b/\b<m2),fun b=>b=q\/(m2<=b/\b<m3),fun b=>m3<=b/\b<m4,fun b=>m4<=b/\b<w.heap.size,?_⟩;exact
 {blk:=hb
  g1:=s
  g2:=u
  bk:=⟨_,v,by rw[jG];rfl⟩
  bcap:=⟨h3.own.2.1,fun e=>by
   cases o3 with
   |none=>exact(h3.own.2.2.2.1 rfl).2
   |some b=>cases e⟩
  ps:=⟨h4.rd,by have:=h4.1;rwa[hZ,iN]at this,(fun e=>by
   cases o4 with
   |none=>exact(h4.2.2.2.1 rfl).2
   |some b=>cases e),fun ad e=>by
   cases o4 with
   |none=>cases e
   |some b=>cases e;exact⟨l4 b rfl,h4.lt⟩⟩
  pz:=⟨o4,rfl⟩
  bz:=by
   cases o3 with
   |none=>exact .inl rfl
   |some b=>exact .inr ⟨b,0,rfl⟩
  t1:=fun h=>by omega
  t2:=fun h=>by omega
  tB:=fun h=>by omega
  tP:=fun h=>by omega
  a12:=fun b h1 h2=>by omega
  a1B:=fun b h1 h2=>by omega
  a2B:=fun b h1 h2=>by omega
  a1P:=fun b h1 h2=>by omega
  a2P:=fun b h1 h2=>by omega
  inF:=⟨by omega,fun b h=>by omega,fun b h=>by omega,fun b h=>by omega,fun b h=>by omega⟩
  lt:=fun b h=>h.2
  hi:=fun b h=>by omega}
theorem qq4 {s s1:RS}(h:qiU s=(none,s1)):qiV s=none:=by unfold qiV;rw[h]
theorem qf9 {s s1:RS}{T:TS}(h:qiU s=(some T,s1)):qiV s=qkd T T.grid.w T.grid.h s1:=by unfold qiV;rw[h]
theorem qq5 {s s1:RS}{T:TS}(h:qiU s=(some T,s1)):T.other=T.grid:=by
 unfold qiU at h;dsimp only at h;split at h
 ·cases h
 simp only[ib,ij]at h;rw[<-h.1];rfl
theorem qfI (D:Nat)(a:Option Addr)(n cap:Nat)(us:List Int)(ot:Option TS)(w:World)(hT:LT w)(h7:gTop<=w.heap.size)(hr:Rd w a (u8s us))(hl:us.length=n)(hle:n<=cap)(hz:(n=0/\cap=0)\/ ∃o,a=some ⟨D,o,none⟩)(hb:byts us)(hn:n<=100000000)(hD:D<w.heap.size)(hX:qiV (some us)=ot):CP 62 [.slice a n cap].toArray w fun e w'=>
 ∃v x,e= .returned (.tuple #[v,iX x])/\Ch (fun _=>False) w w'/\((ot=none/\v= .pointer none/\x=1)\/ ∃t T,ot=some T/\v=pX t/\x=0/\TermAt w' t T (fun b=>w.heap.size<=b/\b<w'.heap.size)):=by
 refine yA Tryz.func62 rfl<|yx 2<|ysr<|yq 1<|yo (yC (qpD D a n cap us _ hr hl hle hz hb hn hD) ?_);rintro _ gp ⟨rv,rfl,gq,aB,bI⟩;refine⟨_,rfl,?_⟩;have aV:=zu (zm w) bI iZ;have bJ:=aB.rs;refine yq 3<|yo (yN [pX rv,.bool true] 165 fun gr sr bK gs aW aX=>?_);have gu:=zn bK aV;have B:¬sr=rv:=by have:=aB.lt;omega
 have L:¬sr=D:=by omega
 have af:=zu aV aX iZ;have aY:=aB.ch aX id id;have gv:=aW.lt;have gw:=aY.lt;refine yz 5<|ysr<|yq 1 ?_;obtain⟨gx,s1,hH⟩:∃o s',qiU (some us)=(o,s'):=⟨_,_,rfl⟩
 refine yo (yC (qq3 ⟨aW,aY,B,L⟩ (qaI (Up.ch af) hT (fun _ h=>h.elim)) (by omega) (by omega) hH) ?_);rintro _ d ⟨v0,rfl,aZ,bM,bN⟩;refine⟨_,rfl,?_⟩;have b3:=zu af bM (fun i hi h=>h.elim (fun(h:i=sr)=>by omega) (fun(h:i=rv)=>by omega));rcases bN with⟨rfl,rfl⟩|⟨t,T,rfl,rfl,bO⟩
 ·refine yz 3<|ys<|yx 2<|yct<|yx 2<|q9 (rS (yR2 [.pointer none,iX 1] .z ?_));rw[qq4 hH]at hX;exact⟨_,_,rfl,Up.ch b3,.inl ⟨hX.symm,rfl,rfl⟩⟩
 obtain⟨g,q,ba,bn,bc,pa,pn,pc,F1,F2,FB,FP,hI⟩:=bO;obtain⟨r1,gC,gD,ag⟩:=hI.g1;obtain⟨r2,gF,gG,au⟩:=hI.g2;have gH:=hI.inF.1;have gI:=hI.inF.2.1 g ag.inF.1;have gJ:=hI.inF.2.2.1 q au.inF.1;have C:Df t g:=fun e=>hI.t1 (e▸ag.inF.1);have E:Df t q:=fun e=>hI.t2 (e▸au.inF.1);have aC:Df g q:=fun e=>hI.a12 g ag.inF.1 (e▸au.inF.1);obtain⟨gK,gL,_⟩:=ag.ok;have j:Df t sr:=(show¬t=sr by omega)
 have f:Df t rv:=(show¬t=rv by omega)
 have M:Df g sr:=(show¬g=sr by omega)
 have m:Df g rv:=(show¬g=rv by omega)
 have N:Df q sr:=(show¬q=sr by omega)
 have r:Df q rv:=(show¬q=rv by omega)
 have av:Df sr rv:=B;have gM:w.heap.size<=t:=by have:=zzs af;omega
 have gN:w.heap.size<=g:=by have:=zzs af;omega
 have gO:w.heap.size<=q:=by have:=zzs af;omega
 refine yz 3<|ys<|yx 2<|ycf<|yk<|ys<|ys<|yD [9] fun bP gP W=>?_;have b4:=zu b3 W iZ;have bQ:Ch (fun _=>True) d bP:=zt (Ch.refl (fun _=>True) d) W (fun _ _ _=>trivial);have aD:=aZ.blk.ch W id;have aE:=aZ.rd.ch W id id;have aF:=hI.blk.ch W id;have bR:=ag.head.ch W id;have bS:=au.head.ch W id;refine yd [0,1,2,3,4,5,6,7,8,11] [] .z<|yK 9 (yB [.pointer (some ⟨t,2,none⟩),.pointer (some ⟨t,10,none⟩),.pointer (some ⟨t,18,none⟩)] 167 3 fun bT a7 bU gQ b5 X=>?_);have gR:=zn bU b4;have bV:=zu b4 X iZ;have bW:Ch (fun _=>True) d bT:=zt bQ X (fun _ _ _=>trivial);have bX:=aD.ch X id;have bY:=aE.ch X id id;have bZ:=aF.ch X id;have c0:=bR.ch X id;have c1:=bS.ch X id;refine q8<|yd [10] [] .z<|yDe (nS ?_);refine qa<|yU 4 (yU1 ?_);refine yx 1<|ys<|yct<|yk<|ys<|qa<|ysr<|yp 3 [] (.i 0 (3) (.l (b5.c 0) .z))<|ye<|yD [16,18] fun c2 gS O=>?_;have c3:=zu bV O iZ;have c4:Ch (fun _=>True) d c2:=zt bW O (fun _ _ _=>trivial);have c5:=bX.ch O id;have c6:=bY.ch O id id;have aG:=bZ.ch O id;have aH:=c0.ch O id;have c7:=c1.ch O id;have c8:=b5.ch O id;refine yd (uL 0 16) [] (.l (aG.c 0) (.l (aH.c 0) (.l (aG.c 0) (.l (aH.c 1) .z)))) ?_;obtain⟨Y,c9,ca,ah⟩:∃c ok s',qjd T.grid.w T.grid.h s1=(c,ok,s'):=⟨_,_,_,rfl⟩
 refine yK 16 (yQ (qel ⟨c5,c6,B,L⟩ ah (by omega) (by omega)) ?_);rintro cb ⟨b6,a8⟩;have cc:=zu c3 a8 (fun i hi h=>h.elim (fun(h:i=sr)=>by omega) (fun(h:i=rv)=>by omega));have cd:Ch (fun _=>True) d cb:=zt c4 a8 (fun _ _ _=>trivial);have ce:=aG.ch a8 (fun h=>h.elim j f);have cf:=aH.ch a8 (fun h=>h.elim M m);have cg:=c7.ch a8 (fun h=>h.elim N r);have ci:=c8.ch a8 (fun h=>h.elim (fun(h:a7=sr)=>by have:=aD.lt;omega) (fun(h:a7=rv)=>by have:=aE.lt;omega));refine q8<|yd [17] [] .z<|yK 18 (yS ce fun cj ck Z=>?_);have cl:=zu cc Z (fun i hi (h:i=t)=>by omega);have cm:Ch (fun _=>True) d cj:=zt cd Z (fun _ _ _=>trivial);have cn:=cf.ch Z (fun h=>C h.symm);have co:=cg.ch Z (fun h=>E h.symm);have b7:=ci.ch Z (fun(h:a7=t)=>by have:=aF.lt;omega);have cp:=b6.blk.ch Z (fun h=>j h.symm);have cq:=b6.rd.ch Z (fun h=>f h.symm) (fun(h:D=t)=>by omega);have cr:Blk _ t (TS.vals ({T with cursor:=Y}:TS) g q (.slice ba bn bc) (.slice pa pn pc)) qat:=Blk.to ck (by kernel_rfl);refine q8<|yDe (nB (nS ?_));refine q7<|yp 2 [] (.q6 1 .z)<|yE (nU (yU1 ?_));refine yx 1<|ys<|yct<|yk<|ys<|qa<|ysr<|yp 3 [] (.i 1 (3) (.l (b7.c 1) .z))<|ye<|yD [16,18] fun cs gT P=>?_;have ct:=zu cl P iZ;have cu:Ch (fun _=>True) d cs:=zt cm P (fun _ _ _=>trivial);have aI:=cn.ch P id;have cv:=co.ch P id;have cw:=b7.ch P id
 have cx:=cp.ch P id;have cy:=cq.ch P id id;have aJ:=cr.ch P id;refine yd (uL 0 16) [] (.l (aJ.c 0) (.l (aI.c 0) (.l (aJ.c 0) (.l (aI.c 1) .z)))) ?_;obtain⟨a9,cz,cA,ai⟩:∃c ok s',qjd T.grid.w T.grid.h ca=(c,ok,s'):=⟨_,_,_,rfl⟩
 refine yK 16 (yQ (qel ⟨cx,cy,B,L⟩ ai (by omega) (by omega)) ?_);rintro cB ⟨b8,aa⟩;have cC:=zu ct aa (fun i hi h=>h.elim (fun(h:i=sr)=>by omega) (fun(h:i=rv)=>by omega));have cD:Ch (fun _=>True) d cB:=zt cu aa (fun _ _ _=>trivial);have cE:=aI.ch aa (fun h=>h.elim M m);have cF:=cv.ch aa (fun h=>h.elim N r);have cG:=cw.ch aa (fun h=>h.elim (fun(h:a7=sr)=>by have:=aD.lt;omega) (fun(h:a7=rv)=>by have:=aE.lt;omega));have cH:=aJ.ch aa (fun h=>h.elim j f);refine q8<|yd [17] [] .z<|yK 18 (yS cH fun cI cJ a0=>?_);have cK:=zu cC a0 (fun i hi (h:i=t)=>by omega);have cL:Ch (fun _=>True) d cI:=zt cD a0 (fun _ _ _=>trivial);have cM:=cE.ch a0 (fun h=>C h.symm);have cN:=cF.ch a0 (fun h=>E h.symm);have cO:=cG.ch a0 (fun(h:a7=t)=>by have:=aF.lt;omega);have cP:=b8.blk.ch a0 (fun h=>j h.symm);have cQ:=b8.rd.ch a0 (fun h=>f h.symm) (fun(h:D=t)=>by omega);have cR:Blk _ t (TS.vals ({T with cursor:=Y,saved:=a9}:TS) g q (.slice ba bn bc) (.slice pa pn pc)) qat:=Blk.to cJ (by kernel_rfl);refine q8<|yDe (nB (nS ?_));refine q7<|yp 2 [] (.q6 2 .z)<|yE (nU (yU1 ?_));refine yx 1<|ys<|yct<|yk<|ys<|qa<|ysr<|yp 3 [] (.i 2 (3) (.l (cO.c 2) .z))<|ye<|yD [16,18] fun cS gU a1=>?_;have cT:=zu cK a1 iZ;have cU:Ch (fun _=>True) d cS:=zt cL a1 (fun _ _ _=>trivial);have aK:=cM.ch a1 id;have cV:=cN.ch a1 id
 have cW:=cP.ch a1 id;have cX:=cQ.ch a1 id id;have aL:=cR.ch a1 id;refine yd (uL 0 16) [] (.l (aL.c 0) (.l (aK.c 0) (.l (aL.c 0) (.l (aK.c 1) .z)))) ?_;obtain⟨aj,cY,cZ,ak⟩:∃c ok s',qjd T.grid.w T.grid.h cA=(c,ok,s'):=⟨_,_,_,rfl⟩
 refine yK 16 (yQ (qel ⟨cW,cX,B,L⟩ ak (by omega) (by omega)) ?_);rintro d0 ⟨b9,al⟩;have d1:=zu cT al (fun i hi h=>h.elim (fun(h:i=sr)=>by omega) (fun(h:i=rv)=>by omega));have d2:Ch (fun _=>True) d d0:=zt cU al (fun _ _ _=>trivial);have d3:=aK.ch al (fun h=>h.elim M m);have d4:=cV.ch al (fun h=>h.elim N r);have d5:=aL.ch al (fun h=>h.elim j f);refine q8<|yd [17] [] .z<|yK 18 (yS d5 fun d6 d7 ab=>?_);have d8:=zu d1 ab (fun i hi (h:i=t)=>by omega);have d9:Ch (fun _=>True) d d6:=zt d2 ab (fun _ _ _=>trivial);have da:=d3.ch ab (fun h=>C h.symm);have db:=d4.ch ab (fun h=>E h.symm);have dc:=b9.blk.ch ab (fun h=>j h.symm);have dd:=b9.rd.ch ab (fun h=>f h.symm) (fun(h:D=t)=>by omega);have de:Blk _ t (TS.vals ({T with cursor:=Y,saved:=a9,away:=aj}:TS) g q (.slice ba bn bc) (.slice pa pn pc)) qat:=Blk.to d7 (by kernel_rfl);refine q8<|yDe (nB (nS ?_));refine q7<|yp 2 [] (.q6 3 .z)<|yE (nU (yU1 ?_));refine yx 1<|ys<|ycf<|ql (eS (qd (qb (nS ?_))));refine ys<|ys<|yD [8] fun df gV a2=>?_;have bb:=zu d8 a2 iZ;have dg:Ch (fun _=>True) d df:=zt d9 a2 (fun _ _ _=>trivial);have bd:=da.ch a2 id;have dh:=db.ch a2 id;have bf:=dc.ch a2 id;have bg:=dd.ch a2 id id;have aM:=de.ch a2 id;refine yd [0,1,2,3,4,5,6,7,10] [] (.l (aM.c 0) (.l (aM.c 1) .z))<|yK 8 (yB [pX g,pX q] 82 2 fun di aw dj gW bh a3=>?_)
 have gX:=zn dj bb;have dk:=zu bb a3 iZ;have dl:Ch (fun _=>True) d di:=zt dg a3 (fun _ _ _=>trivial);have dm:=bd.ch a3 id;have dn:=dh.ch a3 id;have dp:=bf.ch a3 id;have dq:=bg.ch a3 id id;have dr:=aM.ch a3 id;refine q8<|yd [9] [] .z<|yDe (nS ?_);refine qa<|yU 3 (yU1 ?_);refine yx 1<|ys<|yct<|yk<|ys<|qa<|ysr<|yp 3 [] (.i 0 (2) (.l (bh.c 0) .z))<|ye<|yD [16,19] fun a4 gY Q=>?_;have bi:=zu dk Q iZ;have ds:Ch (fun _=>True) d a4:=zt dl Q (fun _ _ _=>trivial);have aN:=dm.ch Q id;have dt:=dn.ch Q id;have du:=dp.ch Q id;have dv:=dq.ch Q id id;have aO:=dr.ch Q id;have dw:=bh.ch Q id;refine yd (uL 0 16) [] (.l (aO.c 0) (.l (aN.c 0) (.l (aO.c 0) (.l (aN.c 1) .z)))) ?_;have gZ:d.heap.size<=a4.heap.size:=zzs ds;obtain⟨h0,dx,f194,am⟩:∃l s' f',qap T.grid.w (T.grid.h:Int).toNat [] cZ (((true&&c9)&&cz)&&cY)=(l,s',f'):=⟨_,_,_,rfl⟩
 refine yK 16 (yC (qfH ⟨du,dv,B,L⟩ (qaI (Up.ch bi) hT (fun _ h=>h.elim)).tb (by omega) (by omega) (by omega) (by omega) am) ?_);rintro _ dy ⟨bj,bk,bl,h1,rfl,dz,dA,bm,ac⟩;refine⟨_,rfl,?_⟩;have dB:=zu bi ac (fun i hi h=>h.elim (fun(h:i=sr)=>by omega) (fun(h:i=rv)=>by omega));have dC:Ch (fun _=>True) a4 dy:=zt (Ch.refl (fun _=>True) a4) ac (fun _ _ _=>trivial);have dD:=aN.ch ac (fun h=>h.elim M m);have dE:=dt.ch ac (fun h=>h.elim N r);have dF:=aO.ch ac (fun h=>h.elim j f);have dG:=dw.ch ac (fun h=>h.elim (fun(h:aw=sr)=>by have:=bf.lt;omega) (fun(h:aw=rv)=>by have:=bg.lt;omega));refine q8<|yd [17,18] [] .z<|dkeep [4,5,60,61,62,82,84] (f':=[(4,pX sr),(5,pX t),(60,.slice (some ⟨aw,0,none⟩) 2 2),(61,iX 2),(62,iX 0),(82,.slice (bj.map at0) bk bl),(84,.pointer (some ⟨g,2,none⟩))])<|yK 19 (yT [iX T.grid.w,iX T.grid.h,.slice (bj.map at0) bk bl] dD fun dH dI R=>?_);have dJ:=zu dB R (fun i hi (h:i=g)=>by omega);have dK:Ch (fun _=>True) a4 dH:=zt dC R (fun _ _ _=>trivial);have dL:=dE.ch R (fun h=>aC h.symm);have dM:=dF.ch R C;have dN:=dG.ch R (fun(h:aw=g)=>by have:=bd.lt;omega);have dO:=bm.blk.ch R (fun h=>M h.symm);have dP:=bm.rd.ch R (fun h=>m h.symm) (fun(h:D=g)=>by omega);have dQ:=dz.ch R (fun b hb hl (h:b=g)=>by omega);refine q8<|yDe (nB (nS ?_));refine q7<|yp 2 [] (.q6 1 .z)<|yE (nU (yU1 ?_))
 refine yx 1<|ys<|yct<|yk<|ys<|qa<|ysr<|yp 3 [] (.i 1 (2) (.l (dN.c 1) .z))<|ye<|yD [16,19] fun ad h2 S=>?_;have bo:=zu dJ S iZ;have dR:Ch (fun _=>True) a4 ad:=zt dK S (fun _ _ _=>trivial);have dS:=dL.ch S id;have aP:=dM.ch S id;have dT:=dO.ch S id;have dU:=dP.ch S id id;have bp:=dQ.ch S (fun _ _ _ h=>h);have aQ:=dI.ch S id;refine yd (uL 0 16) [] (.l (aP.c 0) (.l (aQ.c 0) (.l (aP.c 0) (.l (aQ.c 1) .z)))) ?_;have h3:a4.heap.size<=ad.heap.size:=zzs dR;obtain⟨h4,dV,f239,an⟩:∃l s' f',qap T.grid.w (T.grid.h:Int).toNat [] dx f194=(l,s',f'):=⟨_,_,_,rfl⟩
 have dW:=bp.under;refine yK 16 (yC (qfH ⟨dT,dU,B,L⟩ (qaI (Up.ch bo) hT (fun _ h=>h.elim)).tb (by omega) (by omega) (by omega) (by omega) an) ?_);rintro _ dX ⟨dY,dZ,e0,h5,rfl,e1,e2,bq,ae⟩;refine⟨_,rfl,?_⟩;have e3:=zu bo ae (fun i hi h=>h.elim (fun(h:i=sr)=>by omega) (fun(h:i=rv)=>by omega));have e4:Ch (fun _=>True) ad dX:=zt (Ch.refl (fun _=>True) ad) ae (fun _ _ _=>trivial);have e5:=dS.ch ae (fun h=>h.elim N r);have e6:=aP.ch ae (fun h=>h.elim j f);have e7:=bp.ch ae (fun b hb hl h=>h.elim (fun(h:b=sr)=>by omega) (fun(h:b=rv)=>by omega));have e8:=aQ.ch ae (fun h=>h.elim M m);refine q8<|yd [17,18] [] .z<|yK 19 (yT [iX T.other.w,iX T.other.h,.slice (dY.map at0) dZ e0] e5 fun k e9 U=>?_);have br:=zu e3 U (fun i hi (h:i=q)=>by omega);have ea:Ch (fun _=>True) ad k:=zt e4 U (fun _ _ _=>trivial);have eb:=e6.ch U E;have ec:=e7.ch U (fun b hb hl (h:b=q)=>by omega);have ed:=e8.ch U aC;have ee:=bq.blk.ch U (fun h=>N h.symm);have ef:=bq.rd.ch U (fun h=>r h.symm) (fun(h:D=q)=>by omega);have bs:=e1.ch U (fun b hb hl (h:b=q)=>by omega);refine q8<|yDe (nB (nS ?_));refine q7<|yp 2 [] (.q6 2 .z)<|yE (nU (yU1 ?_));refine yx 1<|ys<|ycf<|ql (eS (qd (qb (nS ?_))));refine ysr<|yq 2 ?_;have h6:ad.heap.size<=k.heap.size:=zzs ea;obtain⟨ax,eg,f273,ao⟩:∃l s' f',qfY dV f239=(l,s',f'):=⟨_,_,_,rfl⟩
 have eh:=bs.under;refine yo (yC (qq0 ⟨ee,ef,B,L⟩ (qaI (Up.ch br) hT (fun _ h=>h.elim)).tb (by omega) (by omega) ao) ?_);rintro _ ei ⟨ay,az,aA,h8,rfl,ej,ek,bt,a5⟩;refine⟨_,rfl,?_⟩;have el:=zu br a5 (fun i hi h=>h.elim (fun(h:i=sr)=>by omega) (fun(h:i=rv)=>by omega));have em:Ch (fun _=>True) k ei:=zt (Ch.refl (fun _=>True) k) a5 (fun _ _ _=>trivial);have en:=eb.ch a5 (fun h=>h.elim j f);have eo:=ec.ch a5 (fun b hb hl h=>h.elim (fun(h:b=sr)=>by omega) (fun(h:b=rv)=>by omega));have ep:=ed.ch a5 (fun h=>h.elim M m);have er:=bs.ch a5 (fun b hb hl h=>h.elim (fun(h:b=sr)=>by omega) (fun(h:b=rv)=>by omega));have es:=e9.ch a5 (fun h=>h.elim N r);refine yq 5<|yo (yS en fun et eu F=>?_);have ev:=zu el F (fun i hi (h:i=t)=>by omega);have ew:Ch (fun _=>True) k et:=zt em F (fun _ _ _=>trivial);have ex:=eo.ch F (fun b hb hl (h:b=t)=>by omega);have ey:=ep.ch F (fun h=>C h.symm);have ez:=er.ch F (fun b hb hl (h:b=t)=>by omega);have eA:=es.ch F (fun h=>E h.symm);have eB:=bt.blk.ch F (fun h=>j h.symm);have eC:=bt.rd.ch F (fun h=>f h.symm) (fun(h:D=t)=>by omega);have eD:=ej.ch F (fun b hb hl (h:b=t)=>by omega);have eE:Blk _ t (TS.vals ({T with back:=ax,cursor:=Y,saved:=a9,away:=aj}:TS) g q (.slice (ay.map at0) az aA) (.slice pa pn pc)) qat:=Blk.to eu (by kernel_rfl);refine ye<|ys<|qaK (· =rv) [11,14,17] (by kernel_rfl) (fun eF h9 s=>?_)
 have eG:=zu ev s iZ;have eH:Ch (fun _=>True) k eF:=zt ew s (fun _ _ _=>trivial);have eI:=ex.ch s (fun _ _ _ h=>h);have eJ:=ey.ch s id;have eK:=ez.ch s (fun _ _ _ h=>h);have eL:=eA.ch s id;have aR:=eB.ch s id;have eM:=eC.ch s id id;have eN:=eD.ch s (fun _ _ _ h=>h);have eO:=eE.ch s id;refine ydC [0,1,2,3,4,5,7,8,9,10] [] (fun u hu=>(.l (qg hu (aR.c 0) av) (.l (qg hu (aR.c 0) av) .z))) ?_;obtain⟨aS,eP,ap⟩:∃x s',qaU 40 eg=(x,s'):=⟨_,_,rfl⟩
 refine yH 6 (yQ (qcW (most:=40) eM ap (by decide)) ?_);rintro eQ ⟨eR,y⟩;have eT:=zu eG y (fun i hi (h:i=rv)=>by omega);have eU:Ch (fun _=>True) k eQ:=zt eH y (fun _ _ _=>trivial);have eV:=eI.ch y (fun b hb hl (h:b=rv)=>by omega);have eW:=eJ.ch y m;have eX:=eK.ch y (fun b hb hl (h:b=rv)=>by omega);have eY:=eL.ch y r;have eZ:=aR.ch y av;have fa:=eN.ch y (fun b hb hl (h:b=rv)=>by omega);have fb:=eO.ch y f;refine qB y iZ ?_;obtain⟨bu,fc,aq⟩:∃x s',qaU 400 eP=(x,s'):=⟨_,_,rfl⟩
 refine yK 11 (yQ (qcW (most:=400) eR aq (by decide)) ?_);rintro fd ⟨fe,G⟩;have ff:=zu eT G (fun i hi (h:i=rv)=>by omega);have fg:Ch (fun _=>True) k fd:=zt eU G (fun _ _ _=>trivial);have fh:=eV.ch G (fun b hb hl (h:b=rv)=>by omega);have fi:=eW.ch G m;have fj:=eX.ch G (fun b hb hl (h:b=rv)=>by omega);have fk:=eY.ch G r;have fl:=eZ.ch G av;have fm:=fa.ch G (fun b hb hl (h:b=rv)=>by omega);have fn:=fb.ch G f;refine q8<|yd [12,13] [] .z<|yK 14 (yS fn fun fo fp H=>?_);have fq:=zu ff H (fun i hi (h:i=t)=>by omega);have fr:Ch (fun _=>True) k fo:=zt fg H (fun _ _ _=>trivial);have fs:=fh.ch H (fun b hb hl (h:b=t)=>by omega);have ft:=fi.ch H (fun h=>C h.symm);have fu:=fj.ch H (fun b hb hl (h:b=t)=>by omega);have fv:=fk.ch H (fun h=>E h.symm);have fw:=fl.ch H (fun h=>j h.symm);have fx:=fm.ch H (fun b hb hl (h:b=t)=>by omega);have fy:=fe.ch H (fun h=>f h.symm) (fun(h:D=t)=>by omega);have fz:Blk _ t (TS.vals ({T with back:=ax,cursor:=Y,saved:=a9,away:=aj,title:=aS}:TS) g q (.slice (ay.map at0) az aA) (.slice pa pn pc)) qat:=Blk.to fp (by kernel_rfl);refine q8<|yd [15,16] [] .z<|yK 17 (yS fz fun a6 fA I=>?_);have bv:=zu fq I (fun i hi (h:i=t)=>by omega);have fB:Ch (fun _=>True) k a6:=zt fr I (fun _ _ _=>trivial);have fC:=fs.ch I (fun b hb hl (h:b=t)=>by omega);have fD:=ft.ch I (fun h=>C h.symm)
 have fE:=fu.ch I (fun b hb hl (h:b=t)=>by omega);have fF:=fv.ch I (fun h=>E h.symm);have fG:=fw.ch I (fun h=>j h.symm);have bw:=fx.ch I (fun b hb hl (h:b=t)=>by omega);have fH:=fy.ch I (fun h=>f h.symm) (fun(h:D=t)=>by omega);have fI:Blk _ t (TS.vals ({T with back:=ax,cursor:=Y,saved:=a9,away:=aj,title:=aS,reply:=bu}:TS) g q (.slice (ay.map at0) az aA) (.slice pa pn pc)) qat:=Blk.to fA (by kernel_rfl);refine q8<|yDe (nS ?_);refine ysr<|yq 2 ?_;have ha:k.heap.size<=a6.heap.size:=zzs fB;obtain⟨J,fJ,f392,ar⟩:∃p s' f',qiT fc f273=(p,s',f'):=⟨_,_,_,rfl⟩
 have fK:=bw.under;refine yo (yC (qlm ⟨fG,fH,B,L⟩ (qaI (Up.ch bv) hT (fun _ h=>h.elim)).ut (by omega) (by omega) ar) ?_);rintro _ fL ⟨fM,fN,fO,rfl,fP,bx,bz,V⟩;refine⟨_,rfl,?_⟩;have fQ:=zu bv V (fun i hi h=>h.elim (fun(h:i=sr)=>by omega) (fun(h:i=rv)=>by omega));have fR:Ch (fun _=>True) a6 fL:=zt (Ch.refl (fun _=>True) a6) V (fun _ _ _=>trivial);have fS:=fC.ch V (fun b hb hl h=>h.elim (fun(h:b=sr)=>by omega) (fun(h:b=rv)=>by omega));have fT:=fD.ch V (fun h=>h.elim M m);have fU:=fE.ch V (fun b hb hl h=>h.elim (fun(h:b=sr)=>by omega) (fun(h:b=rv)=>by omega));have fV:=fF.ch V (fun h=>h.elim N r);have fW:=bw.ch V (fun b hb hl h=>h.elim (fun(h:b=sr)=>by omega) (fun(h:b=rv)=>by omega));have fX:=fI.ch V (fun h=>h.elim j f);refine yq 5<|yo (yS fX fun fY fZ A=>?_);have bA:=zu fQ A (fun i hi (h:i=t)=>by omega);have g0:Ch (fun _=>True) a6 fY:=zt fR A (fun _ _ _=>trivial);have g3:=fS.ch A (fun b hb hl (h:b=t)=>by omega);have g4:=fT.ch A (fun h=>C h.symm);have g5:=fU.ch A (fun b hb hl (h:b=t)=>by omega);have g6:=fV.ch A (fun h=>E h.symm);have g7:=fW.ch A (fun b hb hl (h:b=t)=>by omega);have bB:=bz.blk.ch A (fun h=>j h.symm);have g8:=bz.rd.ch A (fun h=>f h.symm) (fun(h:D=t)=>by omega);have g9:=fP.ch A (fun b e (h:b=t)=>by have:=bx b e;omega);have ga:Blk _ t (TS.vals ({T with back:=ax,cursor:=Y,saved:=a9,away:=aj,title:=aS,reply:=bu,parser:={T.parser with state:=J.state,marks:=J.marks,text:=J.text,within:=J.within,utf:=⟨J.utf.b0,J.utf.b1,J.utf.b2,J.utf.n⟩,params:=J.params}}:TS) g q (.slice (ay.map at0) az aA) (.slice (fM.map at0) fN fO)) qat:=Blk.to fZ (by kernel_rfl)
 refine ye<|ys<|ysr<|yp 6 [] (.l (bB.c 1) .z)<|yw [117] (rN (rY f392)) (fun aT=>?_) fun aT=>?_
 ·have gb:=aT;refine yz 13<|yct<|yx 2<|q9 (rS (yR2 [.pointer none,iX 1] .z ?_));rw[qf9 hH,qgr ah ai ak am an ao ap aq ar]at hX;rw[if_neg (fun h=>absurd (gb.symm.trans h.1) (by decide))]at hX;exact⟨_,_,rfl,Up.ch bA,.inl ⟨hX.symm,rfl,rfl⟩⟩
 have bC:=aT;refine yp 10 [] (.l (bB.c 0) .z)<|yo (yQ (qiZ g8) fun bD K=>?_);have bE:=zu bA K iZ;have gc:Ch (fun _=>True) a6 bD:=zt g0 K (fun _ _ _=>trivial);have gd:=g3.ch K (fun _ _ _ h=>h);have gf:=g4.ch K id;have gg:=g5.ch K (fun _ _ _ h=>h);have gh:=g6.ch K id;have gi:=g7.ch K (fun _ _ _ h=>h);have gj:=g9.ch K iZ;have gk:=ga.ch K id;refine yz 13<|yc (rN (rY (decide (fJ=some [])))) (fun aU=>?_) fun aU=>?_
 ·have gl:=aU;refine yx 2<|q9 (rS (yR2 [.pointer none,iX 1] .z ?_));rw[qf9 hH,qgr ah ai ak am an ao ap aq ar]at hX;rw[if_neg (fun h=>iS gl h.2)]at hX;exact⟨_,_,rfl,Up.ch bE,.inl ⟨hX.symm,rfl,rfl⟩⟩
 have bF:=aU;refine yk<|yx 3<|q9 (yR2 [pX t,iX 0] .z ?_);rw[qf9 hH,qgr ah ai ak am an ao ap aq ar]at hX;have hc:a6.heap.size<=bD.heap.size:=zzs gc;rw[if_pos ⟨bC,iB bF⟩]at hX;obtain rfl:=hX.symm;have bG:=qf9 hH;rw[qgr ah ai ak am an ao ap aq ar,if_pos ⟨bC,iB bF⟩]at bG;obtain⟨_,_,_,gm⟩:=qh0 bJ bG;have gn:=qq5 hH;have bH:=gh;rw[gn]at bH;exact⟨_,_,rfl,Up.ch bE,.inr ⟨t,_,rfl,rfl,rfl,term_of gm (Blk.to gk (by kernel_rfl)) gf bH gd gg gi gj bx dA.symm e2.symm ek.symm dW eh fK h7 (by omega) (by omega) (by omega) C E aC (by omega)⟩⟩
theorem qcq:qX []=[]:=rfl
theorem qbJ (x:Int)(l:List Int):qX (x::l)=qt x.toNat++qX l:=rfl
theorem qq6 {w:World}{b o:Nat}{l:List Bool}(h:Rd w (some ⟨b,o,none⟩) (l.map Value.bool)){k:Nat}(hk:k<l.length):w.cell? ⟨b,o+(k:Int).toNat*1,none⟩=some (.bool (lb l k)):=by
 rw[ik,iN];refine qct h k _ ?_;rw[iM,ig hk];simp[lb,List.getD,ig hk]
theorem qhf (l:List Bool)(h:l.length<=60):qae l<2^60:=ic (qbz _ _) (jU (by decide) h)
structure CurB (c:Cur):Prop where
  x:0<=c.x/\c.x<=1000
  y:0<=c.y/\c.y<=1000
  s:qD c.sty=true
structure ParB (p:PS):Prop where
  st:0<=p.state/\p.state<=1000
  wi:0<=p.within/\p.within<=1000
  u:0<=p.utf.n/\p.utf.n<=3
  ub:byts p.utf.pend
  m:p.marks.size<=1000
  n:p.params.length<=1000
  b:∀x∈p.params,0<=x/\x<=9999
  t:p.text.size<=1000
theorem qgs {u:US}(h:0<=u.n/\u.n<=3):u.pend.length=u.n.toNat:=by
 unfold US.pend;rw[io];simp only[iy,iP];omega
theorem qln {w:World}{b:Nat}{c:Value}{r:List Value}{T:TypeId}{u:US}(h:Blk w b (c::uX u.b0::uX u.b1::uX u.b2::r) T):Rd w (some ⟨b,1,none⟩) (u.pend.map (Value.int .u8)):=by
 refine Rd.blk h fun j hj=>?_;unfold US.pend at hj⊢;rw[hZ,io]at hj;rw[k5,j8,if_pos (by omega),Nat.add_comm];simp only[iy,iP]at hj;obtain rfl|rfl|rfl:j=0\/j=1\/j=2:=by omega
 ·rfl
 ·rfl
 rfl
theorem qhg (fb fo kn:Nat)(l:List Bool)(w:World)(hr:Rd w (some ⟨fb,fo,none⟩) (l.map Value.bool))(hl:l.length=kn)(hn:kn<=60):CP 56 [.slice (some ⟨fb,fo,none⟩) kn kn].toArray w (RQ (.int .u64 ((qae l:Nat):Int)) w):=by
 refine yA Tryz.func56 rfl<|yx 1<|yx 1<|ys<|yx 3<|qa<|qZ [3,6,7,8] (f':=[(3,.int .u64 0),(6,.slice (some ⟨fb,fo,none⟩) kn kn),(7,iX (kn:Int)),(8,iX 0)])<|qy (σ:=Nat×Int) (fun⟨k,x⟩=>[(3,.int .u64 x),(6,.slice (some ⟨fb,fo,none⟩) kn kn),(7,iX (kn:Int)),(8,iX (k:Int))]) (fun⟨k,x⟩ u=>k<=kn/\x=((qal (lb l) k:Nat):Int)/\Ch (fun _=>False) w u) (fun⟨k,x⟩=>kn-k) (0,0) rfl ?_ ?_
 ·exact⟨ip _,rfl,Ch.refl _ _⟩
 intro p n f r d;obtain⟨k,x⟩:=p;obtain⟨hk,hx,b⟩:=f;have g:=qbz (lb l) k;have h:=zu (zm w) b iZ;have j:=Ch.rd b hr id;refine yx 1<|ys<|yc (rL (k:Int) (kn:Int)) (fun m=>?_) fun m=>?_
 ·refine yk<|ys<|qa<|ysr<|yp 5 [] (.i (k:Int) (kn) (.l (o:=(fo+((k:Int)).toNat*1)) (qq6 j (k:=k) (by omega)) .z))<|ye<|yx 1<|yc (rY (lb l k)) (fun c=>?_) fun c=>?_
  ·refine q7<|yp 5 [] (.p (q:=0<=((k:Int):Int)) (by omega) .z)<|yE (nB (nS ?_));refine q7<|yp 2 [] (.q6 ((k:Int)+1) .z)<|yE (fun a ha=>d (k+1,orF x k) _ ⟨by omega,by rw[hx,orF_eq (by omega) g,qal,c,if_pos rfl],b⟩ (by show kn-(k+1)<kn-k;omega) a (ha.kp [3,6,7,8]))
  refine qm (nB (nS ?_));refine q7<|yp 2 [] (.q6 ((k:Int)+1) .z)<|yE (fun a ha=>d (k+1,x) _ ⟨by omega,by rw[hx,qal,c];simp,b⟩ (by show kn-(k+1)<kn-k;omega) a (ha.kp [3,6,7,8]))
 refine ql (eS (qd (qb (nS ?_))));refine yx 2<|q9 (yR1 (.int .u64 x) ?_);exact⟨by rw[hx,show k=kn by omega,<-hl];rfl,Up.ch h⟩
theorem qfJ {o:Option Nat}{n cap:Nat}{xs:List Int}{w:World}(hO:Own w tU8 1 o n cap (u8s xs))(c:Cur)(hc:CurB c)(hz:n+40<=1000000000):CP 57 [.slice (o.map at0) n cap,.agg #[iX c.x,iX c.y,.bool c.late,.bool c.sty.bold,.bool c.sty.under,.bool c.sty.turned,iX c.sty.fore,iX c.sty.back]].toArray w fun e w'=> ∃o' n' cap',e= .returned (.slice (o'.map at0) n' cap')/\Own w' tU8 1 o' n' cap' (u8s (xs++qee c))/\n'<=n+40/\App w w' o o':=by
 have a9:=qeU hc.s;have aa:=qhf [c.late] (by simp);have ab:=hc.x;have ac:=hc.y;refine yA Tryz.func57 rfl<|ysr<|yo (yN [iX c.x,iX c.y,.bool c.late,.bool c.sty.bold,.bool c.sty.under,.bool c.sty.turned,iX c.sty.fore,iX c.sty.back] 86 fun ad I ae af J A=>?_);have f:=zv (b:=I) hO;have K:=hO.ch A iZ;have L:=(App.refl w o).step A iZ;refine yz 2<|ys<|qaK (fun b=>o=some b) [15] (by kernel_rfl) (fun ag ah t=>?_);have B:=K.ch t iZ;have M:=L.step t iZ;have g:=J.ch t id;refine ydC [0,1,2,3,4,5,6,7,8,13,14] [3,6] (fun u hu=>(.l (qg hu (g.c 0) (fun h=>f _ h rfl)) (.p (q:=InR .u64 c.x) (qan (by omega) (by omega)) (.l (qg hu (g.c 1) (fun h=>f _ h rfl)) (.p (q:=InR .u64 c.y) (qan (by omega) (by omega)) (.l (qg hu (g.c 2) (fun h=>f _ h rfl)) (.a (qar hu (g.cs 3 5) (fun h=>f _ h rfl)) .z)))))))<|yH 9 (yB [.bool c.late] 4 1 fun ai C aj ak D k=>?_);have E:=zv (b:=C) B;have N:=B.ch k iZ;have O:=M.step k iZ;have P:=g.ch k id;refine qB k eZ<|yH 10 (yQ (qhg C 0 1 [c.late] _ (Rd.all (cs:=[c.late].map Value.bool) D) rfl (by decide)) fun al i=>?_);have F:=N.ch i iZ;have Q:=O.step i iZ;have R:=P.ch i id;have S:=D.ch i id;refine qB i eZ<|yH 11 (yB [.int .u64 c.x,.int .u64 c.y,.int .u64 ((qae [c.late]:Nat):Int)] 110 3 fun am T an ao m j=>?_);have v:=zv (b:=T) F;have U:=F.ch j iZ;have V:=Q.step j iZ;have G:=R.ch j id
 have H:=S.ch j id;refine qB j eZ<|yH 12 (yC (qce 3 [c.x,c.y,((qae [c.late]:Nat):Int)] U (Rd.all m) (bC (bC (bC bN))) m.lt v) ?_);rintro _ ap ⟨aq,ar,au,rfl,W,av,d⟩;refine⟨_,rfl,?_⟩;have X:=d.apart G.lt f;have Y:=d.apart H.lt E;have Z:=d.apart m.lt v;have a0:=V.trans d;have a1:=G.ch d.ch (fun h=>f _ h rfl);have a2:=H.ch d.ch (fun h=>E _ h rfl);have a3:=m.ch d.ch (fun h=>v _ h rfl);refine qB d.ch iZ<|yK 15 (yC (qdE W c.sty hc.s (by omega)) ?_);rintro _ aw ⟨a4,a5,a6,rfl,a7,ax,r⟩;refine⟨_,rfl,?_⟩;have ay:=r.apart a1.lt X;have az:=r.apart a2.lt Y;have aA:=r.apart a3.lt Z;have a8:=a0.trans r;refine q8<|yd [16] [] .z<|yDe (nS ?_);refine q9 (yR1 (.slice (a4.map at0) a5 a6) ?_);exact⟨_,_,_,rfl,by have h:=a7;unfold qee;simp only[qbJ,qcq,ie,iF,ik]at h⊢;exact h,by omega,a8⟩
theorem qnG {o:Option Nat}{n cap:Nat}{xs:List Int}{w:World}(hO:Own w tU8 1 o n cap (u8s xs))(p:PS)(hp:ParB p)(pa:Option Addr)(pn pc:Nat)(hq:Rd w pa (p.params.map (Value.int .i64)))(hql:p.params.length=pn)(hqz:pn=0\/ ∃b f,pa=some ⟨b,f,none⟩)(hpne:∀x,o=some x-> ∀b f,pa=some ⟨b,f,none⟩-> ¬x=b)(hz:n+20000<=1000000000):CP 59 [.slice (o.map at0) n cap,.agg (p.vals (.slice pa pn pc)).toArray].toArray w fun e w'=> ∃o' n' cap',e= .returned (.slice (o'.map at0) n' cap')/\Own w' tU8 1 o' n' cap' (u8s (xs++qcn p))/\n'<=n+20000/\App w w' o o':=by
 have cr:=hp.st;have cs:=hp.wi;have ct:=hp.u;have cu:=hp.m;have cv:=hp.n;have cw:=hp.t;have cx:=qgs hp.u;have cy:=qbs p.utf.pend;refine yA Tryz.func59 rfl<|ysr<|yo (yN (PS.vals p (.slice pa pn pc)) 94 fun wb bx cz cA aK af=>?_);have d:=zv (b:=bx) hO;have aL:=hO.ch af iZ;have aM:=(App.refl w o).step af iZ;refine yz 2<|qdZ (σ:=Option Nat×Nat×Nat) (fun⟨v,J,N⟩=>[(0,.slice (v.map at0) J N),(3,pX bx)]) (fun⟨v,J,N⟩ u=>Own u tU8 1 v J N (u8s ((xs++qX [p.state,p.within])++qbk (qe p.utf.pend)))/\App w u o v/\J<=n+100/\Blk u bx (PS.vals p (.slice pa pn pc)) 94/\ ∀b,v=some b-> ¬b=bx) (fun cB a2=>?_) (fun gs u18 aN=>?_)
 ·refine qaK (fun b=>o=some b) [16] (by kernel_rfl) (fun aO cC a3=>?_);have O:=aL.ch a3 iZ;have ag:=aM.step a3 iZ;have A:=aK.ch a3 id;refine ydC [0,1,2,3,4,5,6,9,10,11,12,13,14] [3,6] (fun u hu=>(.l (qg hu (A.c 0) (fun h=>d _ h rfl)) (.p (q:=InR .u64 p.state) (qan (by omega) (by omega)) (.l (qg hu (A.c 8) (fun h=>d _ h rfl)) (.p (q:=InR .u64 p.within) (qan (by omega) (by omega)) (.l (qg hu (A.c 4) (fun h=>d _ h rfl)) (.j p.utf.n (3) .z)))))))<|qa5 7 15 (by kernel_rfl) (by decide) ?_ ?_
  ·refine qa4 7 _ (by kernel_rfl) rfl (yB [.int .u64 p.state,.int .u64 p.within] 110 2 fun aP aQ cD cE g P=>?_);have B:=zv (b:=aQ) O;have ah:=O.ch P iZ;have ai:=ag.step P iZ;have K:=A.ch P id;refine qB P eZ<|qa5 8 15 (by kernel_rfl) (by decide) ?_ ?_
   ·refine qa4 8 _ (by kernel_rfl) rfl (yC (qce 2 [p.state,p.within] ah (Rd.all g) (bC (bC bN)) g.lt B) ?_);rintro _ aR ⟨cF,cG,cH,rfl,aS,cI,C⟩;refine⟨_,rfl,?_⟩;have aj:=C.apart K.lt d;have aT:=C.apart g.lt B;have aU:=ai.trans C;have a4:=K.ch C.ch (fun h=>d _ h rfl);have aV:=g.ch C.ch (fun h=>B _ h rfl);refine qB C.ch iZ<|yH 15 (qr (some ⟨bx,1,none⟩) (p.utf.n:Int).toNat 3 p.utf.pend (some 22) (by kernel_rfl) (qln a4) (qgs hp.u) ?_);refine qB (zr aR) eZ<|yK 16 (yC (qaV aS (qe p.utf.pend) (by omega)) ?_);rintro _ cJ ⟨aW,aX,aY,rfl,aZ,cK,Q⟩;refine⟨_,rfl,?_⟩;have b3:=Q.apart a4.lt aj;have cL:=Q.apart aV.lt aT;have b4:=aU.trans Q;have b5:=a4.ch Q.ch (fun h=>aj _ h rfl);refine q8<|yd [17] [] .z<|yDe (fun a ha=>a2 (aW,aX,aY) _ ⟨aZ,b4,by omega,b5,b3⟩ a (ha.kp [0,3]))
   refine qa4 15 _ (by kernel_rfl) rfl (qr (some ⟨bx,1,none⟩) (p.utf.n:Int).toNat 3 p.utf.pend (some 22) (by kernel_rfl) (qln K) (qgs hp.u) ?_);refine qB (zr aP) eZ<|yH 8 (yC (qce 2 [p.state,p.within] ah (Rd.all g) (bC (bC bN)) g.lt B) ?_);rintro _ cM ⟨cN,cO,cP,rfl,b6,cQ,D⟩;refine⟨_,rfl,?_⟩;have ak:=D.apart K.lt d;have b7:=D.apart g.lt B;have b8:=ai.trans D;have al:=K.ch D.ch (fun h=>d _ h rfl);have b9:=g.ch D.ch (fun h=>B _ h rfl);refine qB D.ch iZ<|yK 16 (yC (qaV b6 (qe p.utf.pend) (by omega)) ?_);rintro _ cR ⟨ba,bb,bc,rfl,bd,cS,R⟩;refine⟨_,rfl,?_⟩;have bf:=R.apart al.lt ak;have cT:=R.apart b9.lt b7;have bg:=b8.trans R;have bh:=al.ch R.ch (fun h=>ak _ h rfl);refine q8<|yd [17] [] .z<|yDe (fun a ha=>a2 (ba,bb,bc) _ ⟨bd,bg,by omega,bh,bf⟩ a (ha.kp [0,3]))
  refine qa4 15 _ (by kernel_rfl) rfl (qr (some ⟨bx,1,none⟩) (p.utf.n:Int).toNat 3 p.utf.pend (some 22) (by kernel_rfl) (qln A) (qgs hp.u) ?_);refine qB (zr aO) eZ<|yH 7 (yB [.int .u64 p.state,.int .u64 p.within] 110 2 fun cU bi cV cW S T=>?_);have a5:=zv (b:=bi) O;have bj:=O.ch T iZ;have bk:=ag.step T iZ;have am:=A.ch T id;refine qB T eZ<|yH 8 (yC (qce 2 [p.state,p.within] bj (Rd.all S) (bC (bC bN)) S.lt a5) ?_);rintro _ cX ⟨cY,cZ,d0,rfl,bl,d1,E⟩;refine⟨_,rfl,?_⟩;have an:=E.apart am.lt d;have bm:=E.apart S.lt a5;have bn:=bk.trans E;have ao:=am.ch E.ch (fun h=>d _ h rfl);have bo:=S.ch E.ch (fun h=>a5 _ h rfl);refine qB E.ch iZ<|yK 16 (yC (qaV bl (qe p.utf.pend) (by omega)) ?_);rintro _ d2 ⟨bp,bq,br,rfl,bs,d3,U⟩;refine⟨_,rfl,?_⟩;have bt:=U.apart ao.lt an;have d4:=U.apart bo.lt bm;have bu:=bn.trans U;have bv:=ao.ch U.ch (fun h=>an _ h rfl);refine q8<|yd [17] [] .z<|yDe (fun a ha=>a2 (bp,bq,br) _ ⟨bs,bu,by omega,bv,bt⟩ a (ha.kp [0,3]))
 obtain⟨v,J,N⟩:=gs;obtain⟨bw,bz,d5,bA,F⟩:=aN;refine qdZ (σ:=Option Nat×Nat×Nat) (fun⟨r,s,G⟩=>[(0,.slice (r.map at0) s G),(3,pX bx)]) (fun⟨r,s,G⟩ u=>Own u tU8 1 r s G (u8s ((((xs++qX [p.state,p.within])++qbk (qe p.utf.pend))++qbk p.marks)++qX [(pn:Int)]))/\App w u o r/\s<=n+5000/\Blk u bx (PS.vals p (.slice pa pn pc)) 94/\ ∀b,r=some b-> ¬b=bx) (fun d6 ap=>?_) (fun gs u120 bB=>?_)
 ·refine qaK (fun b=>v=some b) [9] (by kernel_rfl) (fun d7 d8 a6=>?_);have a7:=bw.ch a6 iZ;have aq:=bz.step a6 iZ;have L:=bA.ch a6 id;refine ydC [0,1,2,4,5,6,7] [7] (fun u hu=>(.l (qg hu (L.c 5) (fun h=>F _ h rfl)) (.l (qg hu (L.c 6) (fun h=>F _ h rfl)) (.p (q:=InR .u64 (pn:Int)) (qan (by omega) (by omega)) .z))))<|qa5 3 8 (by kernel_rfl) (by decide) ?_ ?_
  ·refine qa4 3 _ (by kernel_rfl) rfl (yC (qaV a7 p.marks (by omega)) ?_);rintro _ d9 ⟨da,db,dc,rfl,ar,dd,V⟩;refine⟨_,rfl,?_⟩;have au:=V.apart L.lt F;have bD:=aq.trans V;have bE:=L.ch V.ch (fun h=>F _ h rfl);refine qB V.ch iZ<|yH 8 (yB [.int .u64 (pn:Int)] 110 1 fun de bF df dg a8 W=>?_);have av:=zv (b:=bF) ar;have aw:=bE.ch W id;have bG:=ar.ch W iZ;have bH:=bD.step W iZ;refine qB W eZ<|yK 9 (yC (qce 1 [(pn:Int)] bG (Rd.all a8) (bC bN) a8.lt av) ?_);rintro _ dh ⟨bI,bJ,bK,rfl,bL,di,X⟩;refine⟨_,rfl,?_⟩;have bM:=X.apart aw.lt au;have dj:=X.apart a8.lt av;have bO:=bH.trans X;have bP:=aw.ch X.ch (fun h=>au _ h rfl);refine q8<|yd [10] [] .z<|yDe (fun a ha=>ap (bI,bJ,bK) _ ⟨bL,bO,by omega,bP,bM⟩ a (ha.kp [0,3]))
  refine qa4 8 _ (by kernel_rfl) rfl (yB [.int .u64 (pn:Int)] 110 1 fun dk bQ dl dm ax Y=>?_);have ay:=zv (b:=bQ) a7;have bR:=a7.ch Y iZ;have bS:=aq.step Y iZ;have az:=L.ch Y id;refine qB Y eZ<|yH 3 (yC (qaV bR p.marks (by omega)) ?_);rintro _ dn ⟨dp,dq,dr,rfl,bT,ds,H⟩;refine⟨_,rfl,?_⟩;have aA:=H.apart az.lt F;have aB:=H.apart ax.lt ay;have bU:=bS.trans H;have aC:=az.ch H.ch (fun h=>F _ h rfl);have a9:=ax.ch H.ch (fun h=>ay _ h rfl);refine qB H.ch iZ<|yK 9 (yC (qce 1 [(pn:Int)] bT (Rd.all a9) (bC bN) a9.lt aB) ?_);rintro _ dt ⟨bV,bW,bX,rfl,bY,du,Z⟩;refine⟨_,rfl,?_⟩;have bZ:=Z.apart aC.lt aA;have dv:=Z.apart a9.lt aB;have c0:=bU.trans Z;have c2:=aC.ch Z.ch (fun h=>aA _ h rfl);refine q8<|yd [10] [] .z<|yDe (fun a ha=>ap (bV,bW,bX) _ ⟨bY,c0,by omega,c2,bZ⟩ a (ha.kp [0,3]))
 obtain⟨r,s,G⟩:=gs;obtain⟨c3,c4,dw,aD,c5⟩:=bB;refine ys<|ysr<|yp 4 [] (.l (aD.c 6) .z)<|ye<|qa<|qZ [0,3,35,36,37] (f':=[(0,.slice (r.map at0) s G),(3,pX bx),(35,.slice pa pn pc),(36,iX (pn:Int)),(37,iX 0)])<|qy (σ:=Nat×Option Nat×Nat×Nat) (fun⟨k,y,I,M⟩=>[(0,.slice (y.map at0) I M),(3,pX bx),(35,.slice pa pn pc),(36,iX (pn:Int)),(37,iX (k:Int))]) (fun⟨k,y,I,M⟩ u=>k<=pn/\Own u tU8 1 y I M (u8s (((((xs++qX [p.state,p.within])++qbk (qe p.utf.pend))++qbk p.marks)++qX [(pn:Int)])++(p.params.take k).flatMap (fun x=>qt x.toNat)))/\App w u o y/\I<=s+10*k/\Blk u bx (PS.vals p (.slice pa pn pc)) 94/\ ∀b,y=some b-> ¬b=bx) (fun⟨k,y,I,M⟩=>pn-k) (0,r,s,G) rfl ?_ ?_
 ·exact⟨ip _,by rw[List.take_zero];exact(by rw[jy,iF];exact c3),c4,iD _,aD,c5⟩
 intro q dx c6 dy c9;obtain⟨k,y,I,M⟩:=q;obtain⟨hk,a0,aa,dz,ab,ac⟩:=c6;refine yx 1<|ys<|yc (rL (k:Int) (pn:Int)) (fun ca=>?_) fun ca=>?_
 ·obtain⟨pb,po,rfl⟩:=hqz.resolve_left (by omega);have dA:=hp.b _ (qd7 (l:=p.params) (k:=k) (by omega));refine yk<|ys<|qa<|ysr<|yp 3 [] (.i (k:Int) (pn) (.l (o:=(po+((k:Int)).toNat*1)) (qh6 (Ch.rd aa.ch hq (fun h=>hpne _ h _ _ rfl rfl)) (by omega)) .z))<|ye<|q7<|yp 3 [2] (.p (q:=InR .u64 (p.params.getD k 0)) (qan (by omega) (by omega)) .z)<|yo (yB [.int .u64 (p.params.getD k 0)] 110 1 fun dB cb dC dD ad ae=>?_);have aE:=zv (b:=cb) a0;have cc:=a0.ch ae iZ;have cd:=aa.step ae iZ;have aF:=ab.ch ae id;refine yo (yC (qce 1 [(p.params.getD k 0)] cc (Rd.all ad) (bC bN) ad.lt aE) ?_);rintro _ ce ⟨aG,aH,aI,rfl,cf,dE,a1⟩;refine⟨_,rfl,?_⟩;have cg:=a1.apart aF.lt ac;have dF:=a1.apart ad.lt aE;have ci:=cd.trans a1;have cj:=aF.ch a1.ch (fun h=>ac _ h rfl);refine yq 6<|yE (nB (nS ?_));refine q7<|yp 2 [] (.q6 ((k:Int)+1) .z) ?_;have ck:Own ce tU8 1 aG aH aI (u8s (((((xs++qX [p.state,p.within])++qbk (qe p.utf.pend))++qbk p.marks)++qX [(pn:Int)])++(p.params.take (k+1)).flatMap (fun x=>qt x.toNat))):=by
   have h:=cf;rw[qpC (by omega)];simp only[qbJ,qcq,k4,jk,jy,ie,iF]at h⊢;exact h
  refine yE (fun a ha=>c9 (k+1,aG,aH,aI) _ ⟨by omega,ck,ci,by omega,cj,cg⟩ (by show pn-(k+1)<pn-k;omega) a (ha.kp [0,3,35,36,37]))
 have cl:k=p.params.length:=by omega
 rw[cl,jf]at a0;refine ql (eS (qd (qb (nS ?_))));refine ysr<|yp 3 [] (.l (ab.c 7) .z)<|yo (yC (qaV a0 p.text (by omega)) ?_);rintro _ dG ⟨cm,cn,co,rfl,cp,dH,aJ⟩;refine⟨_,rfl,?_⟩;have dI:=aJ.apart ab.lt ac;have cq:=aa.trans aJ;refine yz 5<|q9 (yR1 (.slice (cm.map at0) cn co) ?_);exact⟨_,_,_,rfl,by have h:=cp;unfold qcn;simp only[qbJ,qcq,ie,iF,ik]at h⊢;rw[hql];exact h,by omega,cq⟩
structure EncOk (T:TS):Prop where
  w:0<=T.grid.w/\T.grid.w<=1000
  h:0<=T.grid.h/\T.grid.h<=1000
  t:(0<=T.top/\T.top<=1000)/\0<=T.bot/\T.bot<=1000
  c:CurB T.cursor
  s:CurB T.saved
  a:CurB T.away
  g:T.grid.lines.length<=60/\ ∀l∈T.grid.lines,l.length<=60/\ ∀c∈l,cOk c
  o:T.other.lines.length<=60/\ ∀l∈T.other.lines,l.length<=60/\ ∀c∈l,cOk c
  k:T.back.length<=60/\ ∀l∈T.back,l.length<=60/\ ∀c∈l,cOk c
  ti:T.title.size<=1000
  r:T.reply.size<=1000
  p:ParB T.parser
theorem CurOk.b {W H:Int}{c:Cur}(h:CurOk W H c)(hW:W<=60)(hH:H<=60):CurB c:=⟨⟨h.x.1,by have:=h.x.2;omega⟩,⟨h.y.1,by have:=h.y.2;omega⟩,h.s⟩
theorem DecOk.enc {T:TS}(h:DecOk T):EncOk T:=by
 have hw:=h.w;have hh:=h.h;have ht:=h.t;refine⟨by omega,by omega,by omega,h.c.b hw.2 hh.2,h.s.b hw.2 hh.2,h.a.b hw.2 hh.2,⟨by rw[h.g.1];omega,fun l hl=>⟨by have:=(h.g.2 l hl).1;omega,(h.g.2 l hl).2.2⟩⟩,⟨by rw[h.g2.1];omega,fun l hl=>⟨by have:=(h.g2.2 l hl).1;omega,(h.g2.2 l hl).2.2⟩⟩,⟨by have:=h.k.1;omega,fun l hl=>⟨(h.k.2 l hl).2.1,(h.k.2 l hl).2.2.2⟩⟩,by have:=h.ti;omega,by have:=h.r;omega,?_⟩;have hp:=h.p;exact⟨⟨hp.st.1,by have:=hp.st.2;omega⟩,⟨hp.wi.1,by have:=hp.wi.2;omega⟩,hp.u.n,hp.u.pend,by have:=hp.m;omega,by have:=hp.n;omega,hp.b,by have:=hp.t;omega⟩
theorem App.new {w w':World}{o':Option Nat}(h:App w w' none o'):∀b,o'=some b->w.heap.size<=b:=fun b e=>by
  rcases h.ne with rfl|⟨g,rfl,hg⟩
  · cases e
  · cases e;exact hg
def qmr (f:Nat->Bool):List Bool:=(List.range 60).map f
theorem tabL_v (f:Nat->Bool):(qmr f).map Value.bool=qhs f:=by
 unfold qmr qhs;rw[jG];rfl
theorem tabL_f (f:Nat->Bool):qae (qmr f)=qal f 60:=by
 have hl:(qmr f).length=60:=by simp[qmr]
 unfold qae;rw[hl];refine qcC fun i hi=>?_;unfold lb qmr;simp[List.getD,hi]
theorem tabs_rd {w:World}{t g o:Nat}{bk ps:Value}{T:TS}(h:Blk w t (T.vals g o bk ps) qat):Rd w (some ⟨t,28,none⟩) ((qmr T.tabs).map Value.bool):=by
 rw[tabL_v];refine⟨(fun e=>by cases e),fun ad e j u hj=>?_⟩;cases e;have hl:=(ir.1 hj).1;have a:j<60:=by simpa[qhs]using hl
 have hu:u= .bool (T.tabs j):=by
  unfold qhs at hj;rw[iM,List.getElem?_range a]at hj;exact(zi hj).symm
 have:=qlP h (j:Int) (by omega) (by omega);rw[ik,iN]at this;rw[add_pl,hu];exact this
theorem qd0 {rows:List Row}{k:Nat}{q:Row}(h:rows[k]? =some q):(rows.map Row.l).take (k+1)=(rows.map Row.l).take k++[q.l]:=by
 have hk:k<(rows.map Row.l).length:=by rw[hZ];exact(ir.1 h).1
 rw[j7 hk];congr 2;have:(rows.map Row.l)[k]? =some q.l:=by rw[iM,h];rfl
 exact(ir.1 this).2
theorem qhh {rows:List Row}{k:Nat}(h:k<rows.length):∃q,rows[k]? =some q/\q∈rows:=⟨_,ig h,jI h⟩
theorem qi7 {w:World}{t:Nat}{T:TS}{F:Nat->Prop}(hA0:TermAt w t T F)(he:EncOk T):CP 27 [pX t].toArray w fun e w'=>
 ∃o n cap,e= .returned (.slice (o.map at0) n cap)/\Own w' tU8 1 o n cap (u8s (qL T))/\n<=1000000/\(∀b,o=some b->w.heap.size<=b)/\Ch (fun _=>False) w w':=by
 obtain⟨g,q,ba,bn,bc,pa,pn,pc,F1,F2,FB,FP,hI⟩:=hA0;obtain⟨r1,bg,v,D⟩:=hI.g1;obtain⟨r2,bi,A,E⟩:=hI.g2;obtain⟨ag,G,a4⟩:=hI.bk;have eM:bn<=60:=by have h1:=G.len;have W:=he.k.1;rw[<-a4,hZ]at W;omega
 have eN:=he.w;have eO:=he.h;have eP:=he.t;have eQ:=he.ti;have eR:=he.r;have eT:=qhf [T.wrap,T.origin,T.insert,T.hidden,T.alt,T.draw0,T.draw1,T.shift] (by simp);have eU:=qhf (qmr T.tabs) (by simp[qmr]);refine yA Tryz.func27 rfl<|yx 1<|ys<|yD [26,27] fun eV eW bj=>?_;have bl:=(show Own w tU8 1 none 0 0 (u8s [])from Own.nil w tU8 1).ch bj iZ;have M:=(App.refl w none).step bj iZ;refine yd (uL 0 26) [7,15,20,25] (.l (qg (qO M.ch) (hI.blk.c 0) id) (.l (qg (qO M.ch) (D.head.c 0) id) (.p (q:=InR .u64 T.grid.w) (qan (by omega) (by omega)) (.l (qg (qO M.ch) (hI.blk.c 0) id) (.l (qg (qO M.ch) (D.head.c 1) id) (.p (q:=InR .u64 T.grid.h) (qan (by omega) (by omega)) (.l (qg (qO M.ch) (hI.blk.c 26) id) (.p (q:=InR .u64 T.top) (qan (by omega) (by omega)) (.l (qg (qO M.ch) (hI.blk.c 27) id) (.p (q:=InR .u64 T.bot) (qan (by omega) (by omega)) .z))))))))))<|yK 26 (yB [.int .u64 T.grid.w,.int .u64 T.grid.h,.int .u64 T.top,.int .u64 T.bot] 110 4 fun eX aI cA eY ah bm=>?_);have aJ:=zv (b:=aI) bl;have eZ:w.heap.size<=aI:=by rw[cA];exact M.ch.size
 have cB:=bl.ch bm iZ;have cC:=M.step bm iZ;refine q8<|yK 27 (yC (qce 4 [T.grid.w,T.grid.h,T.top,T.bot] cB (Rd.all ah) (bC (bC (bC (bC bN)))) ah.lt aJ) ?_);rintro _ fa ⟨fb,fc,fd,rfl,cD,fe,aK⟩;refine⟨_,rfl,?_⟩;have bp:=aK.apart ah.lt aJ;have cE:=cC.trans aK;have cF:=ah.ch aK.ch (fun h=>aJ _ h rfl);refine q8<|yd [28] [] .z<|yDe (nS ?_);refine ys<|yD [35,36,41,42,43] fun ff fg aL=>?_;have cG:=cF.ch aL id;have bq:=cD.ch aL iZ;have H:=cE.step aL iZ;refine yd [0,1,2,3,4,5,6,7,8,9,10,11,12,13,14,15,16,17,18,19,20,21,22,23,24,25,26,27,28,29,30,31,32,33,34,37,38,39,40] [] (.l (qg (qO H.ch) (hI.blk.c 88) id) (.l (qg (qO H.ch) (hI.blk.c 89) id) (.l (qg (qO H.ch) (hI.blk.c 90) id) (.l (qg (qO H.ch) (hI.blk.c 91) id) (.l (qg (qO H.ch) (hI.blk.c 95) id) (.i 0 (2) (.l (qg (qO H.ch) (hI.blk.c 92) id) (.i 1 (2) (.l (qg (qO H.ch) (hI.blk.c 93) id) (.l (qg (qO H.ch) (hI.blk.c 94) id) .z))))))))))<|yK 35 (yB [.bool T.wrap,.bool T.origin,.bool T.insert,.bool T.hidden,.bool T.alt,.bool T.draw0,.bool T.draw1,.bool T.shift] 4 8 fun fh ai cH fi br aM=>?_);have bs:=zv (b:=ai) bq;have fj:w.heap.size<=ai:=by rw[cH];exact H.ch.size
 have cI:=cG.ch aM id;have cJ:=bq.ch aM iZ;have cK:=H.step aM iZ;refine q8<|yK 36 (yQ (qhg ai 0 8 [T.wrap,T.origin,T.insert,T.hidden,T.alt,T.draw0,T.draw1,T.shift] _ (Rd.all (cs:=[T.wrap,T.origin,T.insert,T.hidden,T.alt,T.draw0,T.draw1,T.shift].map Value.bool) br) rfl (by decide)) fun fk aj=>?_);have cL:=cI.ch aj id;have cM:=cJ.ch aj iZ;have bt:=cK.step aj iZ;have cN:=br.ch aj id;refine q8<|yK 41 (yQ (qhg t 28 60 (qmr T.tabs) _ (Ch.rd (qO bt.ch) (tabs_rd hI.blk) id) (by simp[qmr]) (by decide)) fun fl ak=>?_);have cO:=cL.ch ak id;have bu:=cM.ch ak iZ;have bv:=bt.step ak iZ;have cP:=cN.ch ak id;refine q8<|yK 42 (yB [.int .u64 ((qae [T.wrap,T.origin,T.insert,T.hidden,T.alt,T.draw0,T.draw1,T.shift]:Nat):Int),.int .u64 ((qae (qmr T.tabs):Nat):Int)] 110 2 fun fm aN cQ fn al am=>?_);have aO:=zv (b:=aN) bu;have fo:w.heap.size<=aN:=by rw[cQ];exact bv.ch.size
 have bw:=cO.ch am id;have cR:=bu.ch am iZ;have cS:=bv.step am iZ;have bx:=cP.ch am id;refine q8<|yK 43 (yC (qce 2 [((qae [T.wrap,T.origin,T.insert,T.hidden,T.alt,T.draw0,T.draw1,T.shift]:Nat):Int),((qae (qmr T.tabs):Nat):Int)] cR (Rd.all al) (bC (bC bN)) al.lt aO) ?_);rintro _ fp ⟨fq,fr,fs,rfl,cT,ft,Q⟩;refine⟨_,rfl,?_⟩;have cU:=Q.apart bw.lt bp;have cV:=Q.apart bx.lt bs;have cW:=Q.apart al.lt aO;have cX:=cS.trans Q;have cY:=bw.ch Q.ch (fun h=>bp _ h rfl);have cZ:=bx.ch Q.ch (fun h=>bs _ h rfl);have d0:=al.ch Q.ch (fun h=>aO _ h rfl);refine q8<|yd [44] [] .z<|yDe (nS ?_);refine ys<|ys<|yD [12] fun fu fv a5=>?_;have d1:=cY.ch a5 id;have d2:=cZ.ch a5 id;have d3:=d0.ch a5 id;have bA:=cT.ch a5 iZ;have a6:=cX.step a5 iZ;refine yd [0,1,2,3,4,5,6,7,8,9,10,11,14] [] (.a (qar (qO a6.ch) (hI.blk.cs 2 8) id) (.a (qar (qO a6.ch) (hI.blk.cs 10 8) id) (.a (qar (qO a6.ch) (hI.blk.cs 18 8) id) .z)))<|yK 12 (yB [iX T.cursor.x,iX T.cursor.y,.bool T.cursor.late,.bool T.cursor.sty.bold,.bool T.cursor.sty.under,.bool T.cursor.sty.turned,iX T.cursor.sty.fore,iX T.cursor.sty.back,iX T.saved.x,iX T.saved.y,.bool T.saved.late,.bool T.saved.sty.bold,.bool T.saved.sty.under,.bool T.saved.sty.turned,iX T.saved.sty.fore,iX T.saved.sty.back,iX T.away.x,iX T.away.y,.bool T.away.late,.bool T.away.sty.bold,.bool T.away.sty.under,.bool T.away.sty.turned,iX T.away.sty.fore,iX T.away.sty.back] 86 3 fun fw a7 d4 fx aP a8=>?_)
 have bB:=zv (b:=a7) bA;have fy:w.heap.size<=a7:=by rw[d4];exact a6.ch.size
 have bD:=d1.ch a8 id;have bE:=d2.ch a8 id;have bF:=d3.ch a8 id;have bG:=bA.ch a8 iZ;have bH:=a6.step a8 iZ;refine q8<|yd [13] [] .z<|yDe (nS ?_);refine qa<|yU 4 (yU1 ?_);refine yx 1<|ys<|yct<|yk<|ys<|qa<|ysr<|yp 2 [] (.i 0 (3) (.a (aP.cs 0 8) .z))<|yo (yN [iX 0,iX 0,xF,xF,xF,xF,iX 0,iX 0] 86 fun fz N d5 fA d6 X=>?_);have bI:=zv (b:=N) bG;have d7:w.heap.size<=N:=by rw[d5];exact bH.ch.size
 have d8:=bD.ch X id;have d9:=bE.ch X id;have da:=bF.ch X id;have db:=bG.ch X iZ;have dc:=bH.step X iZ;have dd:=aP.ch X id;refine yo (yT [iX T.cursor.x,iX T.cursor.y,.bool T.cursor.late,.bool T.cursor.sty.bold,.bool T.cursor.sty.under,.bool T.cursor.sty.turned,iX T.cursor.sty.fore,iX T.cursor.sty.back] d6 fun fB bJ Y=>?_);have de:=d8.ch Y (fun(h:aI=N)=>by have:=bD.lt;omega);have df:=d9.ch Y (fun(h:ai=N)=>by have:=bE.lt;omega);have dg:=da.ch Y (fun(h:aN=N)=>by have:=bF.lt;omega);have dh:=db.ch Y (fun b e (h:b=N)=>bI b e h);have di:=dc.step Y (fun i hi (h:i=N)=>by have:=d7;omega);have bK:=dd.ch Y (fun(h:a7=N)=>by have:=aP.lt;omega);refine ye<|q7<|yp 2 [] (.a (bJ.cs 0 8) .z)<|yo (yC (qfJ dh T.cursor he.c (by omega)) ?_);rintro _ fC ⟨fD,fE,fF,rfl,bL,fG,R⟩;refine⟨_,rfl,?_⟩;have fH:=R.apart de.lt cU;have fI:=R.apart df.lt cV;have fJ:=R.apart dg.lt cW;have bM:=R.apart bK.lt bB;have fK:=R.apart bJ.lt bI;have bO:=di.trans R;have aQ:=bK.ch R.ch (fun h=>bB _ h rfl);refine yq 4<|yE (nB (nS ?_));refine q7<|yp 2 [] (.q6 1 .z)<|yE (nU (yU1 ?_));refine yx 1<|ys<|yct<|yk<|ys<|qa<|ysr<|yp 2 [] (.i 1 (3) (.a (aQ.cs 8 8) .z))<|yo (yN [iX 0,iX 0,xF,xF,xF,xF,iX 0,iX 0] 86 fun fL a9 dj fM dk aR=>?_);have bP:=zv (b:=a9) bL;have dl:w.heap.size<=a9:=by rw[dj];exact bO.ch.size
 have dm:=aQ.ch aR id;have dn:=bL.ch aR iZ;have dp:=bO.step aR iZ;refine yo (yT [iX T.saved.x,iX T.saved.y,.bool T.saved.late,.bool T.saved.sty.bold,.bool T.saved.sty.under,.bool T.saved.sty.turned,iX T.saved.sty.fore,iX T.saved.sty.back] dk fun fN bQ aS=>?_);have bR:=dm.ch aS (fun(h:a7=a9)=>by have:=aQ.lt;omega);have dq:=dn.ch aS (fun b e (h:b=a9)=>bP b e h);have dr:=dp.step aS (fun i hi (h:i=a9)=>by have:=dl;omega);refine ye<|q7<|yp 2 [] (.a (bQ.cs 0 8) .z)<|yo (yC (qfJ dq T.saved he.s (by omega)) ?_);rintro _ fO ⟨fP,fQ,fR,rfl,bS,fS,an⟩;refine⟨_,rfl,?_⟩;have ds:=an.apart bR.lt bM;have fT:=an.apart bQ.lt bP;have bT:=dr.trans an;have aT:=bR.ch an.ch (fun h=>bM _ h rfl);refine yq 4<|yE (nB (nS ?_));refine q7<|yp 2 [] (.q6 2 .z)<|yE (nU (yU1 ?_));refine yx 1<|ys<|yct<|yk<|ys<|qa<|ysr<|yp 2 [] (.i 2 (3) (.a (aT.cs 16 8) .z))<|yo (yN [iX 0,iX 0,xF,xF,xF,xF,iX 0,iX 0] 86 fun fU aa dt fV du aU=>?_);have bU:=zv (b:=aa) bS;have dv:w.heap.size<=aa:=by rw[dt];exact bT.ch.size
 have dw:=aT.ch aU id;have dx:=bS.ch aU iZ;have dy:=bT.step aU iZ;refine yo (yT [iX T.away.x,iX T.away.y,.bool T.away.late,.bool T.away.sty.bold,.bool T.away.sty.under,.bool T.away.sty.turned,iX T.away.sty.fore,iX T.away.sty.back] du fun fW bV aV=>?_);have dz:=dw.ch aV (fun(h:a7=aa)=>by have:=aT.lt;omega);have dA:=dx.ch aV (fun b e (h:b=aa)=>bU b e h);have dB:=dy.step aV (fun i hi (h:i=aa)=>by have:=dv;omega);refine ye<|q7<|yp 2 [] (.a (bV.cs 0 8) .z)<|yo (yC (qfJ dA T.away he.a (by omega)) ?_);rintro _ fX ⟨ao,ab,ap,rfl,dC,fY,aW⟩;refine⟨_,rfl,?_⟩;have fZ:=aW.apart dz.lt ds;have g0:=aW.apart bV.lt bU;have dD:=dB.trans aW;refine yq 4<|yE (nB (nS ?_));refine q7<|yp 2 [] (.q6 3 .z)<|yE (nU (yU1 ?_));refine yx 1<|ys<|ycf<|ql (eS (qd (qb (nS ?_))));refine ys<|ys<|yD [8] fun g3 g4 bW=>?_;have bX:=dC.ch bW iZ;have aq:=dD.step bW iZ;refine yd [0,1,2,3,4,5,6,7,10] [] (.l (qg (qO aq.ch) (hI.blk.c 0) id) (.l (qg (qO aq.ch) (hI.blk.c 1) id) .z))<|yK 8 (yB [pX g,pX q] 82 2 fun dE B dF g5 bY bZ=>?_);have dG:=zv (b:=B) bX;have g6:w.heap.size<=B:=by rw[dF];exact aq.ch.size
 have dH:=bX.ch bZ iZ;have c0:=aq.step bZ iZ;refine q8<|yd [9] [] .z<|yDe (nS ?_);refine qa<|yU 3 (yU1 ?_);refine yx 1<|ys<|yct<|yk<|ys<|qa<|ysr<|yf (f':=[(0,pX t),(3,.slice (ao.map at0) ab ap),(7,pX g),(114,.slice (some ⟨B,0,none⟩) 2 2),(115,iX 2),(116,iX 0)]) 3 [] [0,3,7,114,115,116] (.i 0 (2) (.l (bY.c 0) .z))<|ye<|ysr<|yp 6 [] (.l (qg (qO c0.ch) (D.head.c 2) id) .z)<|ye<|qa ?_;obtain⟨ar,c1⟩:∃l:List Int,l=(((((([]:List Int)++qX [T.grid.w,T.grid.h,T.top,T.bot])++qX [((qae [T.wrap,T.origin,T.insert,T.hidden,T.alt,T.draw0,T.draw1,T.shift]:Nat):Int),((qae (qmr T.tabs):Nat):Int)])++qee T.cursor)++qee T.saved)++qee T.away):=⟨_,rfl⟩
 have dI:Own dE tU8 1 ao ab ap (u8s ar):=by rw[c1];exact dH
 have dJ:=he.g.1;rw[<-D.lines,hZ]at dJ;refine qZ [0,3,114,115,116,123,124,125] (f':=[(0,pX t),(3,.slice (ao.map at0) ab ap),(114,.slice (some ⟨B,0,none⟩) 2 2),(115,iX 2),(116,iX 0),(123,.slice (some ⟨r1,0,none⟩) v.length bg),(124,iX (v.length:Int)),(125,iX 0)])<|qy (σ:=Nat×Option Nat×Nat×Nat) (fun⟨d,I,J,O⟩=>[(0,pX t),(3,.slice (I.map at0) J O),(114,.slice (some ⟨B,0,none⟩) 2 2),(115,iX 2),(116,iX 0),(123,.slice (some ⟨r1,0,none⟩) v.length bg),(124,iX (v.length:Int)),(125,iX (d:Int))]) (fun⟨d,I,J,O⟩ u=>d<=v.length/\Own u tU8 1 I J O (u8s (ar++((v.map Row.l).take d).flatMap qaa))/\App w u none I/\J<=ab+1800*d/\Blk u B [pX g,pX q] 82/\ ∀b,I=some b-> ¬b=B) (fun⟨d,I,J,O⟩=>v.length-d) (0,ao,ab,ap) rfl ?_ ?_
 ·exact⟨ip _,(by rw[List.take_zero,jy,iF];exact dI),c0,iD _,bY,dG⟩
 intro p dK dL g7 dM;obtain⟨d,I,J,O⟩:=p;obtain⟨g8,aX,S,g9,au,aY⟩:=dL;refine yx 1<|ys<|yc (rL (d:Int) (v.length:Int)) (fun dN=>?_) fun dN=>?_
 ·obtain⟨K,c2,Z⟩:=qhh (rows:=v) (k:=d) (by omega);obtain⟨ga,dO⟩:=he.g.2 K.l (by rw[<-D.lines];exact ji Z);have gb:=(D.line K Z).2;refine yk<|ys<|qa<|ysr<|yp 3 [] (.i (d:Int) (v.length) (.l (qh3 (Ch.rd (qO S.ch) D.body.rd id) c2) .z))<|ye<|q7<|yq 2<|yo (yC (qeh aX K.b K.n K.cap K.l (Ch.rd (qO S.ch) (D.line K Z).1.rd id) (ic (D.line K Z).1.lt S.ch.size) (S.apart (D.line K Z).1.lt (fun b e=>by cases e)) (D.line K Z).2 dO (by omega)) ?_);rintro _ dP ⟨c3,c4,c5,rfl,dQ,gc,aZ⟩;refine⟨_,rfl,?_⟩;have dR:=aZ.apart au.lt aY;have dS:=S.trans aZ;have dT:=au.ch aZ.ch (fun h=>aY _ h rfl);refine yq 4<|yE (nB (nS ?_));refine q7<|yp 2 [] (.q6 ((d:Int)+1) .z) ?_;have dU:Own dP tU8 1 c3 c4 c5 (u8s (ar++((v.map Row.l).take (d+1)).flatMap qaa)):=by
   have h:=dQ;rw[qd0 c2];simp only[qbJ,qcq,k4,jk,jy,ie,iF,ik]at h⊢;exact h
  refine yE (fun a ha=>dM (d+1,c3,c4,c5) _ ⟨by omega,dU,dS,by omega,dT,dR⟩ (by show v.length-(d+1)<v.length-d;omega) a (ha.kp [0,3,114,115,116,123,124,125]))
 have dV:d=(v.map Row.l).length:=by rw[hZ];omega
 rw[dV,jf,D.lines]at aX;refine ql (eS (qd (qb (nB (nS ?_)))));refine q7<|yp 2 [] (.q6 1 .z)<|yE (nU (yU1 ?_));refine yx 1<|ys<|yct<|yk<|ys<|qa<|ysr<|yp 3 [] (.i 1 (2) (.l (au.c 1) .z))<|ye<|ysr<|yp 6 [] (.l (qg (qO S.ch) (E.head.c 2) id) .z)<|ye<|qa ?_;obtain⟨av,c6⟩:∃l:List Int,l=(ar++(T.grid.lines).flatMap qaa):=⟨_,rfl⟩
 have dW:Own dK tU8 1 I J O (u8s av):=by rw[c6];exact aX
 have dX:=he.o.1;rw[<-E.lines,hZ]at dX;refine qZ [0,3,114,115,116,123,124,125] (f':=[(0,pX t),(3,.slice (I.map at0) J O),(114,.slice (some ⟨B,0,none⟩) 2 2),(115,iX 2),(116,iX 1),(123,.slice (some ⟨r2,0,none⟩) A.length bi),(124,iX (A.length:Int)),(125,iX 0)])<|qy (σ:=Nat×Option Nat×Nat×Nat) (fun⟨j,U,a0,ac⟩=>[(0,pX t),(3,.slice (U.map at0) a0 ac),(114,.slice (some ⟨B,0,none⟩) 2 2),(115,iX 2),(116,iX 1),(123,.slice (some ⟨r2,0,none⟩) A.length bi),(124,iX (A.length:Int)),(125,iX (j:Int))]) (fun⟨j,U,a0,ac⟩ u=>j<=A.length/\Own u tU8 1 U a0 ac (u8s (av++((A.map Row.l).take j).flatMap qaa))/\App w u none U/\a0<=J+1800*j/\Blk u B [pX g,pX q] 82/\ ∀b,U=some b-> ¬b=B) (fun⟨j,U,a0,ac⟩=>A.length-j) (0,I,J,O) rfl ?_ ?_
 ·exact⟨ip _,(by rw[List.take_zero,jy,iF];exact dW),S,iD _,au,aY⟩
 intro p gd dY gf dZ;obtain⟨j,U,a0,ac⟩:=p;obtain⟨gg,aw,P,gh,b0,ax⟩:=dY;refine yx 1<|ys<|yc (rL (j:Int) (A.length:Int)) (fun e0=>?_) fun e0=>?_
 ·obtain⟨L,c7,a1⟩:=qhh (rows:=A) (k:=j) (by omega);obtain⟨gi,e1⟩:=he.o.2 L.l (by rw[<-E.lines];exact ji a1);have gj:=(E.line L a1).2;refine yk<|ys<|qa<|ysr<|yp 3 [] (.i (j:Int) (A.length) (.l (qh3 (Ch.rd (qO P.ch) E.body.rd id) c7) .z))<|ye<|q7<|yq 2<|yo (yC (qeh aw L.b L.n L.cap L.l (Ch.rd (qO P.ch) (E.line L a1).1.rd id) (ic (E.line L a1).1.lt P.ch.size) (P.apart (E.line L a1).1.lt (fun b e=>by cases e)) (E.line L a1).2 e1 (by omega)) ?_);rintro _ e2 ⟨c8,c9,ca,rfl,e3,gk,b1⟩;refine⟨_,rfl,?_⟩;have e4:=b1.apart b0.lt ax;have e5:=P.trans b1;have e6:=b0.ch b1.ch (fun h=>ax _ h rfl);refine yq 4<|yE (nB (nS ?_));refine q7<|yp 2 [] (.q6 ((j:Int)+1) .z) ?_;have e7:Own e2 tU8 1 c8 c9 ca (u8s (av++((A.map Row.l).take (j+1)).flatMap qaa)):=by
   have h:=e3;rw[qd0 c7];simp only[qbJ,qcq,k4,jk,jy,ie,iF,ik]at h⊢;exact h
  refine yE (fun a ha=>dZ (j+1,c8,c9,ca) _ ⟨by omega,e7,e5,by omega,e6,e4⟩ (by show A.length-(j+1)<A.length-j;omega) a (ha.kp [0,3,114,115,116,123,124,125]))
 have e8:j=(A.map Row.l).length:=by rw[hZ];omega
 rw[e8,jf,E.lines]at aw;refine ql (eS (qd (qb (nB (nS ?_)))));refine q7<|yp 2 [] (.q6 2 .z)<|yE (nU (yU1 ?_));refine yx 1<|ys<|ycf<|ql (eS (qd (qb (nS ?_))));refine ysr<|yp 7 [6] (.l (qg (qO P.ch) (hI.blk.c 97) id) (.p (q:=InR .u64 (bn:Int)) (qan (by omega) (by omega)) .z))<|yo (yB [.int .u64 (bn:Int)] 110 1 fun gl cb e9 gm b2 b3=>?_);have cc:=zv (b:=cb) aw;have gn:w.heap.size<=cb:=by rw[e9];exact P.ch.size
 have ea:=aw.ch b3 iZ;have eb:=P.step b3 iZ;have cd:=b0.ch b3 id;refine yo (yC (qce 1 [(bn:Int)] ea (Rd.all b2) (bC bN) b2.lt cc) ?_);rintro _ ec ⟨b4,ay,b5,rfl,ed,gp,az⟩;refine⟨_,rfl,?_⟩;have ee:=az.apart cd.lt ax;have gq:=az.apart b2.lt cc;have ce:=eb.trans az;have ef:=cd.ch az.ch (fun h=>ax _ h rfl);refine yz 10<|ys<|ysr<|yp 6 [] (.l (qg (qO ce.ch) (hI.blk.c 97) id) .z)<|ye<|qa ?_;obtain⟨b6,cf⟩:∃l:List Int,l=((av++(T.other.lines).flatMap qaa)++qX [(bn:Int)]):=⟨_,rfl⟩
 have eg:Own ec tU8 1 b4 ay b5 (u8s b6):=by rw[cf];exact ed
 have eh:=he.k.1;rw[<-a4,hZ]at eh;have gr:=G.len;refine qZ [0,3,146,147,148] (f':=[(0,pX t),(3,.slice (b4.map at0) ay b5),(146,.slice ba bn bc),(147,iX (bn:Int)),(148,iX 0)])<|qy (σ:=Nat×Option Nat×Nat×Nat) (fun⟨m,V,a2,ad⟩=>[(0,pX t),(3,.slice (V.map at0) a2 ad),(146,.slice ba bn bc),(147,iX (bn:Int)),(148,iX (m:Int))]) (fun⟨m,V,a2,ad⟩ u=>m<=bn/\Own u tU8 1 V a2 ad (u8s (b6++((ag.map Row.l).take m).flatMap (fun l=>qt l.length++qaa l)))/\App w u none V/\a2<=ay+1810*m/\Blk u B [pX g,pX q] 82/\ ∀b,V=some b-> ¬b=B) (fun⟨m,V,a2,ad⟩=>bn-m) (0,b4,ay,b5) rfl ?_ ?_
 ·exact⟨ip _,(by rw[List.take_zero,jy,iF];exact eg),ce,iD _,ef,ee⟩
 intro p gs ei gu ej;obtain⟨m,V,a2,ad⟩:=p;obtain⟨gv,aA,aB,gw,cg,aC⟩:=ei;refine yx 1<|ys<|yc (rL (m:Int) (bn:Int)) (fun ek=>?_) fun ek=>?_
 ·obtain⟨bb,bo,rfl⟩:=qpJ hI.bz G (by omega);obtain⟨C,ci,a3⟩:=qhh (rows:=ag) (k:=m) (by omega);obtain⟨gx,el⟩:=he.k.2 C.l (by rw[<-a4];exact ji a3);have em:=(G.line C a3).2;refine yk<|ys<|qa<|ysr<|yp 3 [] (.i (m:Int) (bn) (.l (qh3 (Ch.rd (qO aB.ch) G.rd id) ci) .z))<|ye<|q7<|yp 4 [3] (.p (q:=InR .u64 (C.n:Int)) (qan (by omega) (by omega)) .z)<|yo (yB [.int .u64 (C.n:Int)] 110 1 fun gy cj en gz aD b7=>?_);have b8:=zv (b:=cj) aA;have gA:w.heap.size<=cj:=by rw[en];exact aB.ch.size
  have ck:=cg.ch b7 id;have eo:=aA.ch b7 iZ;have ep:=aB.step b7 iZ;refine yo (yC (qce 1 [(C.n:Int)] eo (Rd.all aD) (bC bN) aD.lt b8) ?_);rintro _ gB ⟨gC,gD,gE,rfl,er,gF,ae⟩;refine⟨_,rfl,?_⟩;have cl:=ae.apart ck.lt aC;have es:=ae.apart aD.lt b8;have aE:=ep.trans ae;have cm:=ck.ch ae.ch (fun h=>aC _ h rfl);have et:=aD.ch ae.ch (fun h=>b8 _ h rfl);refine yq 7<|yo (yC (qeh er C.b C.n C.cap C.l (Ch.rd (qO aE.ch) (G.line C a3).1.rd id) (ic (G.line C a3).1.lt aE.ch.size) (aE.apart (G.line C a3).1.lt (fun b e=>by cases e)) (G.line C a3).2 el (by omega)) ?_);rintro _ eu ⟨cn,co,cp,rfl,ev,gG,aF⟩;refine⟨_,rfl,?_⟩;have ew:=aF.apart cm.lt cl;have gH:=aF.apart et.lt es;have ex:=aE.trans aF;have ey:=cm.ch aF.ch (fun h=>cl _ h rfl);refine yq 9<|yE (nB (nS ?_));refine q7<|yp 2 [] (.q6 ((m:Int)+1) .z) ?_;have ez:Own eu tU8 1 cn co cp (u8s (b6++((ag.map Row.l).take (m+1)).flatMap (fun l=>qt l.length++qaa l))):=by
   have h:=ev;rw[qd0 ci];simp only[qbJ,qcq,k4,jk,jy,ie,iF,ik]at h⊢;rw[em];exact h
  refine yE (fun a ha=>ej (m+1,cn,co,cp) _ ⟨by omega,ez,ex,by omega,ey,ew⟩ (by show bn-(m+1)<bn-m;omega) a (ha.kp [0,3,146,147,148]))
 have eA:m=(ag.map Row.l).length:=by rw[hZ];omega
 rw[eA,jf,a4]at aA;refine ql (eS (qd (qb (nS ?_))));refine ys<|qaK (fun b=>w.heap.size<=b) [15] (by kernel_rfl) (fun gI gJ b9=>?_);have cq:=cg.ch b9 id;have eB:=aA.ch b9 iZ;have af:=aB.step b9 iZ;refine ydC [0,1,2,3,4,6,7,8,9,11,12,13,14] [] (fun u hu=>(.l (qg hu (qg (qO af.ch) (hI.blk.c 96) id) (fun h=>by have:=hI.blk.lt;omega)) (.l (qg hu (qg (qO af.ch) (hI.blk.c 107) id) (fun h=>by have:=hI.blk.lt;omega)) (.a (qar hu (qar (qO af.ch) (hI.blk.cs 98 9) id) (fun h=>by have:=hI.blk.lt;omega)) .z))))<|yH 5 (yC (qaV eB T.title (by omega)) ?_);rintro _ gK ⟨gL,gM,gN,rfl,eC,gO,aG⟩;refine⟨_,rfl,?_⟩;have cr:=aG.apart cq.lt aC;have ct:=af.trans aG;have cu:=cq.ch aG.ch (fun h=>aC _ h rfl);refine qB aG.ch ((fun i _ h=>af.new i h))<|yH 10 (yC (qaV eC T.reply (by omega)) ?_);rintro _ gP ⟨gQ,gR,gS,rfl,eD,gT,aH⟩;refine⟨_,rfl,?_⟩;have eE:=aH.apart cu.lt cr;have bd:=ct.trans aH;have eF:=cu.ch aH.ch (fun h=>cr _ h rfl);refine qB aH.ch ((fun i _ h=>ct.new i h))<|yK 15 (yC (qnG eD T.parser he.p pa pn pc (hI.ps.1.ch (qO bd.ch) iZ) hI.ps.2.1 (by rcases hI.pz with⟨po,cv⟩;cases po with|none=>exact .inl (by have h:=hI.ps.1.1 (by rw[cv];rfl);have W:=hI.ps.2.1;rw[km]at h;rw[h]at W;exact W.symm)|some b=>exact .inr ⟨b,0,by rw[cv];rfl⟩) (fun x hx b f hb e=>by have h1:=bd.new x hx;have W:=hI.ps.2.2.2 _ hb;have h3:=hI.lt b (hI.inF.2.2.2.2 b W);omega) (by omega)) ?_)
 rintro _ gV ⟨eG,eH,eI,rfl,eJ,gW,cw⟩;refine⟨_,rfl,?_⟩;have gX:=cw.apart eF.lt eE;have cx:=bd.trans cw;refine q8<|yd [16] [] .z<|yDe (nS ?_);refine q9 (yR1 (.slice (eG.map at0) eH eI) ?_);refine⟨_,_,_,rfl,?_,by omega,cx.new,qO cx.ch⟩;have h:=eJ;subst cf c6 c1;unfold qL;unfold qbV;rw[<-tabL_f];simp only[qbJ,qcq,ie,iF,iO,ik]at h⊢;have cy:=congrArg List.length a4;rw[hZ,G.len]at cy;rw[<-cy];exact h
theorem qky {p:Nat}{G:Gr}{F:Nat->Prop}(w:World)(hG0:GridAt w p G F):CP 99 [pX p].toArray w fun e w'=>
 ∃g F',e= .returned (pX g)/\GridAt w' g G F'/\(∀b,F' b->w.heap.size<=b)/\Ch (fun _=>False) w w':=by
 obtain⟨r,rc,rows,hG⟩:=hG0;have h7:=qou ⟨r,rc,rows,hG⟩;have aK:=hG.len;have aL:=hG.ok.2.1;have aM:=hG.ok.1;refine yA Tryz.func99 rfl<|yx 1<|ys<|yD [9] fun aN aO a8=>?_;have D:=zu (zm w) a8 iZ;refine yd (uL 0 9) [] (.l (qg (Up.ch D) (hG.head.c 0) id) (.l (qg (Up.ch D) (hG.head.c 1) id) .z))<|yK 9 (yN [iX G.w,iX G.h,nX] 112 fun s d a9 aP M aa=>?_);have aQ:=zn a9 D;have E:=zu D aa iZ;refine q8<|yd [10] [] .z<|yDe (nS ?_);refine ys<|ysr<|yp 6 [] (.l (qg (Up.ch E) (hG.head.c 2) id) .z)<|ye<|qa<|qZ [3,19,20,21] (f':=[(3,pX d),(19,.slice (some ⟨r,0,none⟩) rows.length rc),(20,iX (rows.length:Int)),(21,iX 0)])<|qy (σ:=Nat×Option Nat×Nat) (fun⟨k,o,oc⟩=>[(3,pX d),(19,.slice (some ⟨r,0,none⟩) rows.length rc),(20,iX (rows.length:Int)),(21,iX (k:Int))]) (fun⟨k,o,oc⟩ u=>k<=rows.length/\Ch (· =d) s u/\ ∃t,Blk u d [iX G.w,iX G.h,.slice (o.map at0) k oc] qgx/\NewRows s u o k oc t G.w/\t.map Row.l=(rows.map Row.l).take k) (fun⟨k,o,oc⟩=>rows.length-k) (0,none,0) rfl ?_ ?_
 ·exact⟨ip _,Ch.refl _ _,[],M,NewRows.nil _,rfl⟩
 intro p A ab aR ac;obtain⟨k,o,oc⟩:=p;obtain⟨hk,H,t,hB,hN,T⟩:=ab;have U:=zu E H (fun i hi (h:i=d)=>by omega);have aS:w.heap.size<=s.heap.size:=zzs E;have ad:s.heap.size<=A.heap.size:=zzs H;have ae:d<s.heap.size:=M.lt;refine yx 1<|ys<|yc (rL (k:Int) (rows.length:Int)) (fun af=>?_) fun af=>?_
 ·obtain⟨q,hq,I⟩:=qhh (rows:=rows) (k:=k) (by omega);have V:=(hG.line q I).2;have ag:=hG.ok.2.2.2 _ (hG.lines▸ji I);refine yk<|ys<|qa<|ysr<|yp 3 [] (.i (k:Int) (rows.length) (.l (qh3 (Ch.rd (Up.ch U) hG.body.rd id) hq) .z))<|ye<|yDC [8,11] fun aT aU B=>?_;have N:=zu U B iZ;have W:=zt H B eZ;have X:=zt (Ch.refl (fun j=>j=d\/o=some j) A) B eZ;have O:=hB.ch B id;have ah:=hN.out.own.ch B iZ;refine ydC (uL 0 6) [] (fun u hu=>(.l (qg hu (O.c 2) id) .z))<|yH 6 (yC (qey q.b q.n q.cap q.l _ ((hG.line q I).1.ch (Up.ch N) id).rd (ic (hG.line q I).1.lt (zzs N)) V (by omega)) ?_);rintro _ aV ⟨m,C,rfl,ai,Y,v⟩;refine⟨_,rfl,?_⟩;have aj:A.heap.size<=m:=im (zzs X) Y;have aW:s.heap.size<=m:=im (zzs W) Y;have ak:Df d m:=(show¬d=m by have:=O.lt;omega)
  have al:=zu N v iZ;have Z:=zt W v eZ;have a0:=zt X v eZ;have am:=O.ch v id;have an:=ah.ch v iZ;refine qaR v<|yH 7 (yB [.slice (some ⟨m,0,none⟩) q.n C] 118 1 fun aX P Q aY ao y=>?_);have aZ:=zn Q al;have b0:s.heap.size<=P:=by rw[Q];exact zzs Z
  have b1:A.heap.size<=P:=by rw[Q];exact zzs a0
  have ap:=zt Z y eZ;have a1:=zt a0 y eZ;have a2:=am.ch y id;have a3:=an.ch y iZ;have R:=ai.ch y id;refine qaR y ?_;refine yK 8 (qaG 118 1 24 o k oc (t.map Row.val) (some ⟨P,0,none⟩) 1 1 [Row.val (Row.mk m q.n C q.l)] (some 33) (k+1) rfl ((t++[(Row.mk m q.n C q.l)]).map Row.val) (by rw[iK];rfl) (by kernel_rfl) a3 (Rd.all ao) rfl rfl (fun h=>by cases h) (by constructor<;>first|omega|(simp only[maxLen];omega)) ?_);intro b2 aq a4 ar S au J;obtain⟨K,rfl⟩:∃b,aq=some b:=au (by omega);have a5:¬o=some d:=fun e=>by have:=hN.lo _ e;have:=M.lt;omega
  have a6:¬o=some m:=qaT a3 R;have av:Df d K:=qbr S (fun e=>a5 e) a2.lt;have b3:Df m K:=qbr S (fun e=>a6 e) R.lt;have aw:=zt ap J (fun i hi h=>by have:=hN.lo _ h;omega);have ax:=zt a1 J (fun _ _ h=> .inr h);have ay:=a2.ch J a5;have az:=R.ch J a6;refine q8<|yd [9,10] [] .z<|yK 11 (yT [iX G.w,iX G.h,.slice (some ⟨K,0,none⟩) (k+1) a4] ay fun b4 aA L=>?_);have aB:=zt aw L iZ;have aC:=zt ax L (fun i _ (h:i=d)=> .inl h);have aD:=az.ch L (fun h=>ak h.symm);have aE:=ar.ch L (fun b e=>by cases e;exact(fun h=>av h.symm));refine q8<|yDe (nB (nS ?_));refine q7<|yp 2 [] (.q6 ((k:Int)+1) .z) ?_;have aF:=qeF (x:=(Row.mk m q.n C q.l)) hN (by omega) ad aC (fun b h=>h.imp (fun e=>by omega) id) aD aj ag V aE (S.imp id fun⟨b,e,h⟩=>⟨b,e,im (zzs a1) h⟩);have aG:(t++[(Row.mk m q.n C q.l)]).map Row.l=(rows.map Row.l).take (k+1):=by rw[iK,T,qd0 hq];rfl
  refine yE (fun a ha=>ac (k+1,some K,a4) _ ⟨by omega,aB,_,aA,aF,aG⟩ (by show rows.length-(k+1)<rows.length-k;omega) a (ha.kp [3,19,20,21]))
 have aH:k=rows.length:=by omega
 obtain⟨r',rfl⟩:=hN.some (by omega);refine ql (eS (qd (qb (nS ?_))));refine yx 2<|q9 (yR1 (pX d) ?_);have a7:=hN.grid (F:=fun b=>w.heap.size<=b/\b<A.heap.size) hB ae hG.ok.1 hG.ok.2.1 (by omega) ⟨by omega,by omega⟩ (fun b h=>⟨by omega,h.2⟩) (fun b h=>⟨h.2,by omega⟩);have aI:(rows.map Row.l).take k=G.lines:=by rw[aH,<-hZ (f:=Row.l),jf,hG.lines]
 rw[T,aI]at a7;exact⟨d,_,rfl,⟨r',oc,t,a7⟩,(fun _ h=>h.1),zt (Up.ch E) H (fun i hi (h:i=d)=>by omega)⟩
theorem qlo (ad:Addr)(n cap:Nat)(l:List Int)(w:World)(hr:Rd w (some ad) (l.map (Value.int .i64)))(hn:l.length=n)(hnb:n<=1000000):CP 101 [.slice (some ad) n cap].toArray w fun e w'=> ∃o cap',e= .returned (.slice (o.map at0) n cap')/\Own w' tI 1 o n cap' (l.map (Value.int .i64))/\(∀b,o=some b->w.heap.size<=b)/\Ch (fun _=>False) w w':=by
 refine yA Tryz.func101 rfl<|yx 1<|ys<|yx 2<|yc (rY ((some ad)).isNone) (fun c=>?_) fun c=>?_
 ·exact absurd c (by simp)
 refine yk<|ysr<|yo (e_bs0 3 (some 5) (by kernel_rfl) ?_);intro x d q y r f;have z:=zn q (zm w);have j:=zu (zm w) f iZ;have s:=hr.ch f iZ;refine yq 2 ?_;refine yo (qaG 3 1 8 (some d) 0 0 [] (some ad) n cap (l.map (Value.int .i64)) (some 7) n (iL _) (l.map (Value.int .i64)) rfl (by kernel_rfl) (Own.blk r rfl (ip _)) s (by rw[hZ,hn,iN]) (by exact qF _) (fun h=>by cases h) (by constructor<;>(first|omega|(simp only[maxLen];omega))) ?_);intro A t k u m B a;obtain⟨p,rfl⟩:∃g,t=some g:=by rcases m with h|⟨g,h,_⟩<;>exact⟨_,h⟩
 replace a:=qih a;have v:=zu j a (fun i hi (h:i=d)=>by omega);refine yz 4<|q9 (yR1 (.slice (some ⟨p,0,none⟩) n k) ?_);exact⟨some p,k,rfl,u,(fun b e=>by cases e;exact qlF m (by omega) (zzs j)),Up.ch v⟩
theorem qlp (w:World):CP 101 [nX].toArray w fun e w'=> ∃o cap',e= .returned (.slice (o.map at0) 0 cap')/\Own w' tI 1 o 0 cap' (([]:List Int).map (Value.int .i64))/\(∀b,o=some b->w.heap.size<=b)/\Ch (fun _=>False) w w':=by
 refine yA Tryz.func101 rfl<|yx 1<|ys<|yx 2<|yct<|yx 1<|q9 (rS (yR1 (nX) ?_));exact⟨none,0,rfl,Own.nil _ _ _,(fun b e=>by cases e),Up.ch (zm w)⟩
theorem qnH {a:Option Addr}{n cap:Nat}{l:List Int}(w:World)(hr:Rd w a (l.map (Value.int .i64)))(hn:l.length=n)(hz:a=none->cap=0)(hnb:n<=1000000):CP 101 [.slice a n cap].toArray w fun e w'=> ∃o cap',e= .returned (.slice (o.map at0) n cap')/\Own w' tI 1 o n cap' (l.map (Value.int .i64))/\(∀b,o=some b->w.heap.size<=b)/\Ch (fun _=>False) w w':=by
 cases a with
 |some ad=>exact qlo ad n cap l w hr hn hnb
 |none=>
  have c:=hr.1 rfl;obtain rfl:l=[]:=by simpa using c
  obtain rfl:0=n:=hn;rw[hz rfl];exact qlp w
structure BackN (wb w:World)(o:Option Nat)(n cap:Nat)(rows:List Row):Prop where
 out:OutAt w o n cap rows (fun b=>wb.heap.size<=b/\b<w.heap.size)
theorem BackN.nil (w:World):BackN w w none 0 0 []:=
 ⟨⟨Own.nil _ _ _,(fun x hx=>by cases hx),(fun x hx=>by cases hx),(fun b e=>by cases e),(fun b h=>by omega),(fun b h=>by omega)⟩⟩
theorem BackN.lo {wb w:World}{o:Option Nat}{n cap:Nat}{rows:List Row}(h:BackN wb w o n cap rows):∀b,o=some b->wb.heap.size<=b:=fun b e=>(h.out.oK b e).1
theorem qnI {wb wk w':World}{o o':Option Nat}{k oc oc':Nat}{rows:List Row}{x:Row}{S:Nat->Prop}(h:BackN wb wk o k oc rows)(h7:gTop<=wb.heap.size)(hs:wb.heap.size<=wk.heap.size)
  (hc:Ch S wk w') (hS:∀b,S b->b<wb.heap.size\/o=some b) (hl:LineAt w' x.b x.l x.cap) (hb:wk.heap.size<=x.b) (hn:x.l.length=x.n)
  (hown:Own w' qbY 1 o' (k+1) oc' ((rows++[x]).map Row.val)) (ho':o'=o\/ ∃b,o'=some b/\wk.heap.size<=b):BackN wb w' o' (k+1) oc' (rows++[x]):=by
 have d:=hc.size;have hlt':∀b,o'=some b->b<w'.heap.size:=fun b e=>by subst e;exact hown.lt
 refine⟨⟨hown,?_,?_,?_,fun b h=>h.2,fun b h=>by omega⟩⟩
 ·intro z hz
  rcases iG.1 hz with hz|hz
  ·have hk:=h.out.inK z hz
   refine⟨(h.out.line z hz).1.ch hc fun c=>?_,(h.out.line z hz).2⟩;rcases hS _ c with a|a
   ·omega
   ·exact qaT h.out.own (h.out.line z hz).1 a
  ·obtain rfl:=iH.1 hz
   exact⟨hl,hn⟩
 ·intro z hz
  rcases iG.1 hz with hz|hz
  ·have:=h.out.inK z hz;omega
  ·obtain rfl:=iH.1 hz
   exact⟨by omega,hl.lt⟩
 ·intro b e
  have:=hlt' b e;rcases ho' with h'|⟨b',h',f⟩
  ·have:=h.lo b (h'▸e);omega
  ·rw[e]at h';obtain rfl:=ia h';omega
theorem copy_of {w:World}{c g q m0 m1 m2 m3 m4 n3 c3 n4 c4:Nat}{o3 o4:Option Nat}{rows:List Row}{T:TS}{F1 F2:Nat->Prop}
  (hb:Blk w c (T.vals g q (.slice (o3.map at0) n3 c3) (.slice (o4.map at0) n4 c4)) qat) (h1:GridAt w g T.grid F1) (h2:GridAt w q T.other F2) (l1:∀b,F1 b->m1<=b/\b<m2) (l2:∀b,F2 b->m2<=b/\b<m3)
  (h3:OutAt w o3 n3 c3 rows (fun b=>m3<=b/\b<m4)) (e3:rows.map Row.l=T.back) (h4:Own w tI 1 o4 n4 c4 (T.parser.params.map (Value.int .i64))) (l4:∀b,o4=some b->m4<=b)
  (h7:gTop<=m0) (hc:m0<=c/\c<m1) (hm:m1<=m2/\m2<=m3/\m3<=m4/\m4<=w.heap.size):TermAt w c T (fun b=>m0<=b/\b<w.heap.size):=by
 refine⟨g,q,o3.map at0,n3,c3,o4.map at0,n4,c4,F1,F2,fun b=>m3<=b/\b<m4,fun b=>m4<=b/\b<w.heap.size,?_⟩;exact
 {blk:=hb
  g1:=h1
  g2:=h2
  bk:=⟨rows,h3.lines,e3⟩
  bcap:=⟨h3.own.2.1,fun e=>by
   cases o3 with
   |none=>exact(h3.own.2.2.2.1 rfl).2
   |some b=>cases e⟩
  ps:=⟨h4.rd,by have:=h4.1;rwa[hZ,iN]at this,(fun e=>by
   cases o4 with
   |none=>exact(h4.2.2.2.1 rfl).2
   |some b=>cases e),fun ad e=>by
   cases o4 with
   |none=>cases e
   |some b=>cases e;exact⟨l4 b rfl,h4.lt⟩⟩
  pz:=⟨o4,rfl⟩
  bz:=by
   cases o3 with
   |none=>exact .inl rfl
   |some b=>exact .inr ⟨b,0,rfl⟩
  t1:=fun h=>by have:=l1 _ h;omega
  t2:=fun h=>by have:=l2 _ h;omega
  tB:=fun h=>by omega
  tP:=fun h=>by omega
  a12:=fun b h h'=>by have:=l1 _ h;have:=l2 _ h';omega
  a1B:=fun b h h'=>by have:=l1 _ h;omega
  a2B:=fun b h h'=>by have:=l2 _ h;omega
  a1P:=fun b h h'=>by have:=l1 _ h;omega
  a2P:=fun b h h'=>by have:=l2 _ h;omega
  inF:=⟨⟨hc.1,hb.lt⟩,fun b h=>by have:=l1 _ h;omega,fun b h=>by have:=l2 _ h;omega,fun b h=>by omega,fun b h=>by omega⟩
  lt:=fun b h=>h.2
  hi:=fun b h=>by omega}
theorem qms {w:World}{t:Nat}{T:TS}{F:Nat->Prop}(hA0:TermAt w t T F)(he:EncOk T):CP 68 [pX t].toArray w fun e w'=>
 ∃c,e= .returned (pX c)/\TermAt w' c T (fun b=>w.heap.size<=b/\b<w'.heap.size)/\Ch (fun _=>False) w w':=by
 obtain⟨g,o,ba,bn,bc,pa,pn,pc,F1,F2,FB,FP,hI⟩:=hA0;have h7:gTop<=w.heap.size:=im (hI.hi t hI.inF.1) (Nat.le_of_lt (hI.lt t hI.inF.1));obtain⟨rows,r,S⟩:=hI.bk;have bP:=r.len;have bQ:bn<=60:=by have h2:=he.k.1;rw[<-S,hZ]at h2;omega
 refine yA Tryz.func68 rfl<|yx 1<|ysr<|yp 3 [] (.a (qar (Up.ch (zm w)) (hI.blk.cs 0 108) id) .z)<|yo (yN [.pointer none,.pointer none,iX 0,iX 0,xF,xF,xF,xF,iX 0,iX 0,iX 0,iX 0,xF,xF,xF,xF,iX 0,iX 0,iX 0,iX 0,xF,xF,xF,xF,iX 0,iX 0,iX 0,iX 0,xF,xF,xF,xF,xF,xF,xF,xF,xF,xF,xF,xF,xF,xF,xF,xF,xF,xF,xF,xF,xF,xF,xF,xF,xF,xF,xF,xF,xF,xF,xF,xF,xF,xF,xF,xF,xF,xF,xF,xF,xF,xF,xF,xF,xF,xF,xF,xF,xF,xF,xF,xF,xF,xF,xF,xF,xF,xF,xF,xF,xF,xF,xF,xF,xF,xF,xF,xF,oX,nX,iX 0,uX 0,uX 0,uX 0,iX 0,oX,nX,oX,iX 0,oX] 96 fun bR d az bS aA aB=>?_);have bT:=zn az (zm w);have aC:=zu (zm w) aB iZ;refine yo (yT (TS.vals T g o (.slice ba bn bc) (.slice pa pn pc)) aA fun bU aD aE=>?_);have aF:=zu aC aE (fun i hi (h:i=d)=>by omega);refine ye<|ys<|yDC [9,11,13] fun aG bV a2=>?_;have I:=zu aF a2 iZ;have a3:=aD.ch a2 id;refine ydC [0,1,2,3,5,6,7,8] [] (fun u hu=>(.l (qg hu (qg (Up.ch I) (hI.blk.c 0) id) id) (.l (qg hu (qg (Up.ch I) (hI.blk.c 1) id) id) .z))) ?_;have aH:=a3.lt;refine yH 4 (yC (qky _ (hI.g1.ch (Up.ch I) iZ)) ?_);rintro _ aI ⟨y,bW,rfl,a4,a5,J⟩;refine⟨_,rfl,?_⟩;have aJ:=a4.lt;have aK:=zzs J;have a6:=zu I J iZ;have a7:=a3.ch J id;refine qaR J ?_;have bX:=a7.lt;refine yK 9 (yC (qky _ (hI.g2.ch (Up.ch a6) iZ)) ?_);rintro _ aL ⟨D,bY,rfl,a8,a9,K⟩;refine⟨_,rfl,?_⟩;have aM:=a8.lt
 have bZ:=zzs K;have aN:=zu a6 K iZ;have aO:=a7.ch K id;have aP:=a4.ch K iZ;refine q8<|yd [10] [] .z<|yK 11 (yS aO fun c0 aQ aa=>?_);have aR:=zu aN aa (fun i hi (h:i=d)=>by omega);have aS:=zt (Ch.refl (· =d) aL) aa iZ;have aT:Blk _ d (TS.vals T y o (.slice ba bn bc) (.slice pa pn pc)) qat:=Blk.to aQ (by kernel_rfl);refine q8<|yd [12] [] .z<|yK 13 (yS aT fun c1 aU ab=>?_);have aV:=zu aR ab (fun i hi (h:i=d)=>by omega);have aW:=zt aS ab iZ;have aX:Blk _ d (TS.vals T y D (.slice ba bn bc) (.slice pa pn pc)) qat:=Blk.to aU (by kernel_rfl);refine q8<|yDe (nS ?_);refine ysr<|yq 1<|yo (yS aX fun s aY ac=>?_);have U:=zu aV ac (fun i hi (h:i=d)=>by omega);have ad:=zt aW ac iZ;have V:Blk _ d (TS.vals T y D (nX) (.slice pa pn pc)) qat:=Blk.to aY (by kernel_rfl);refine ye<|ys<|ysr<|yp 6 [] (.l (qg (Up.ch U) (hI.blk.c 97) id) .z)<|ye<|qa<|qZ [0,3,25,26,27] (f':=[(0,pX t),(3,pX d),(25,.slice ba bn bc),(26,iX (bn:Int)),(27,iX 0)])<|qy (σ:=Nat×Option Nat×Nat) (fun⟨k,o,oc⟩=>[(0,pX t),(3,pX d),(25,.slice ba bn bc),(26,iX (bn:Int)),(27,iX (k:Int))]) (fun⟨k,o,oc⟩ u=>k<=bn/\Ch (· =d) s u/\ ∃A,Blk u d (TS.vals T y D (.slice (o.map at0) k oc) (.slice pa pn pc)) qat/\BackN s u o k oc A/\A.map Row.l=(rows.map Row.l).take k) (fun⟨k,o,oc⟩=>bn-k) (0,none,0) rfl ?_ ?_
 ·exact⟨ip _,Ch.refl _ _,[],V,BackN.nil _,rfl⟩
 intro p v aZ c2 b0;obtain⟨k,o,oc⟩:=p;obtain⟨hk,L,A,hB,hN,ae⟩:=aZ;have E:=zu U L (fun i hi (h:i=d)=>by omega);have b1:=zt ad L iZ;have c3:w.heap.size<=s.heap.size:=zzs U;have af:s.heap.size<=v.heap.size:=zzs L;have c4:d<s.heap.size:=V.lt;have c5:=zzs ad;refine yx 1<|ys<|yc (rL (k:Int) (bn:Int)) (fun b2=>?_) fun b2=>?_
 ·obtain⟨bb,bo,rfl⟩:=qpJ hI.bz r (by omega);obtain⟨q,hq,M⟩:=qhh (rows:=rows) (k:=k) (by have:=r.len;omega);have ag:=(r.line q M).2;have c6:=(he.k.2 q.l (S▸ji M)).1;refine yk<|ys<|qa<|ysr<|yp 3 [] (.i (k:Int) (bn) (.l (qh3 (Ch.rd (Up.ch E) r.rd id) hq) .z))<|ye<|yDC [5,7] fun c7 c8 G=>?_;have W:=zu E G iZ;have ah:=zt L G eZ;have ai:=zt (Ch.refl (fun j=>j=d\/o=some j) v) G eZ;have X:=hB.ch G id;have b3:=hN.out.own.ch G iZ;refine ydC (uL 0 3) [] (fun u hu=>(.l (qg hu (X.c 97) id) .z))<|yH 3 (yC (qey q.b q.n q.cap q.l _ ((r.line q M).1.ch (Up.ch W) id).rd (ic (r.line q M).1.lt (zzs W)) ag (by omega)) ?_);rintro _ c9 ⟨m,H,rfl,b4,aj,B⟩;refine⟨_,rfl,?_⟩;have b5:v.heap.size<=m:=im (zzs ai) aj;have ca:s.heap.size<=m:=im (zzs ah) aj;have b6:Df d m:=(show¬d=m by have:=X.lt;omega)
  have b7:=zu W B iZ;have ak:=zt ah B eZ;have al:=zt ai B eZ;have b8:=X.ch B id;have b9:=b3.ch B iZ;refine qaR B<|yH 4 (yB [.slice (some ⟨m,0,none⟩) q.n H] 118 1 fun cb Y Z cc bd C=>?_);have cd:=zn Z b7;have ce:s.heap.size<=Y:=by rw[Z];exact zzs ak
  have cf:v.heap.size<=Y:=by rw[Z];exact zzs al
  have bf:=zt ak C eZ;have am:=zt al C eZ;have an:=b8.ch C id;have ao:=b9.ch C iZ;have a0:=b4.ch C id;refine qaR C ?_;refine yK 5 (qaG 118 1 24 o k oc (A.map Row.val) (some ⟨Y,0,none⟩) 1 1 [Row.val (Row.mk m q.n H q.l)] (some 36) (k+1) rfl ((A++[(Row.mk m q.n H q.l)]).map Row.val) (by rw[iK];rfl) (by kernel_rfl) ao (Rd.all bd) rfl rfl (fun h=>by cases h) (by constructor<;>first|omega|(simp only[maxLen];omega)) ?_);intro cg bg ap bh a1 bi N;obtain⟨O,rfl⟩:∃b,bg=some b:=bi (by omega);have aq:¬o=some d:=fun e=>by have:=hN.lo _ e;have:=V.lt;omega
  have ar:¬o=some m:=qaT ao a0;have bj:Df d O:=qbr a1 (fun e=>aq e) an.lt;have ci:Df m O:=qbr a1 (fun e=>ar e) a0.lt;have bl:=zt bf N (fun i hi h=>by have:=hN.lo _ h;omega);have bm:=zt am N (fun _ _ h=> .inr h);have bp:=an.ch N aq;have bq:=a0.ch N ar;refine q8<|yd [6] [] .z<|yK 7 (yS bp fun cj br P=>?_);have bs:=zt bl P iZ;have bt:=zt bm P (fun i _ (h:i=d)=> .inl h);have bu:=bq.ch P (fun h=>b6 h.symm);have bv:=bh.ch P (fun b e=>by cases e;exact(fun h=>bj h.symm));have bw:Blk _ d (TS.vals T y D (.slice (some ⟨O,0,none⟩) (k+1) ap) (.slice pa pn pc)) qat:=Blk.to br (by kernel_rfl);refine q8<|yDe (nB (nS ?_));refine q7<|yp 2 [] (.q6 ((k:Int)+1) .z) ?_;have bx:=qnI (x:=(Row.mk m q.n H q.l)) hN (by omega) af bt (fun b h=>h.imp (fun e=>by omega) id) bu b5 ag bv (a1.imp id fun⟨b,e,h⟩=>⟨b,e,im (zzs am) h⟩);have bA:(A++[(Row.mk m q.n H q.l)]).map Row.l=(rows.map Row.l).take (k+1):=by rw[iK,ae,qd0 hq];rfl
  refine yE (fun a ha=>b0 (k+1,some O,ap) _ ⟨by omega,bs,_,bw,bx,bA⟩ (by show bn-(k+1)<bn-k;omega) a (ha.kp [0,3,25,26,27]))
 have bB:k=rows.length:=by have:=r.len;omega
 refine ql (eS (qd (qb (nS ?_))));refine ysr<|yp 5 [] (.l (qg (Up.ch E) (hI.blk.c 104) id) .z) ?_;have ck:=hB.lt;have cl:=zzs (Ch.refl (· =d) v);refine yo (yC (qnH _ (hI.ps.1.ch (Up.ch E) iZ) hI.ps.2.1 hI.ps.2.2.1 (by have:=he.p.n;have:=hI.ps.2.1;omega)) ?_);rintro _ cm ⟨bC,bD,rfl,bE,au,Q⟩;refine⟨_,rfl,?_⟩;have bF:=zu E Q iZ;have bG:=zt b1 Q eZ;have bH:=zt (Ch.refl (· =d) v) Q eZ;have bI:=hB.ch Q id;refine yq 8<|yo (yS bI fun cn bJ R=>?_);have bK:=zu bF R (fun i hi (h:i=d)=>by omega);have av:=zt bG R iZ;have aw:=zt bH R iZ;have bL:Blk _ d (TS.vals T y D (.slice (o.map at0) k oc) (.slice (bC.map at0) pn bD)) qat:=Blk.to bJ (by kernel_rfl);refine ye<|yx 1<|q9 (yR1 (pX d) ?_);have hP:=bE.ch R (fun b e (h:b=d)=>by have:=au b e;omega);have co:=zzs aw;have bM:(rows.map Row.l).take k=T.back:=by rw[bB,<-hZ (f:=Row.l),jf,S]
 exact⟨d,rfl,copy_of (m0:=w.heap.size) (m1:=aG.heap.size) (m2:=aI.heap.size) (m3:=s.heap.size) (m4:=v.heap.size) bL (aP.ch av (fun b hb e=>by have:=a5 b hb;omega)) (a8.ch av (fun b hb e=>by have:=a9 b hb;omega)) (fun b hb=>⟨a5 b hb,aJ b hb⟩) (fun b hb=>⟨a9 b hb,by have:=aM b hb;omega⟩) (hN.out.ch aw (fun b hb e=>by omega)) (ae.trans bM) hP (fun b e=>by have:=au b e;omega) h7 ⟨by omega,aH⟩ ⟨aK,by omega,af,by omega⟩,Up.ch bK⟩
theorem apply_at {t:Nat}{T:TS}{F:Nat->Prop}(e:Ev)(w:World)(hA:(qau t T).P w F)(hg:Gz w F)(hT:LT w)(hFi:Fine T)(hz:e.data.size<=1000000):CP 75 [pX t,.agg e.vals.toArray].toArray w fun x w'=>x= .returned (.tuple #[])/\qkj (qau t T) (qau t (qa8 T e)) F w w':=by
 have h:=Sep.one hA fun b hb=>(hg.lo b hb).2;obtain⟨⟨W,H,hL⟩,hp⟩:=hFi;refine yA Tryz.func75 rfl<|ysr<|yo (zN [iX e.time,iX e.kind,.string e.data,iX e.w,iX e.h] 66 h fun u m h=>?_);refine ye<|ysr<|yp 2 [] (.l (h.c 1 1) .z)<|ye<|qa<|yx 2<|yc (rE e.kind 0) (fun d=>?_) fun d=>?_
 ·have i:=d;refine q7<|yp 3 [] (.l (h.c 1 2) .z)<|yo (yQ (h.met 0 fun F hA hF=>qm0 hA (h.lt hg hT) hL hp e.data hz) fun u h=>?_);refine yE (nB (qV ?_));have a:qa8 T e=(qgL T e.data):=by unfold qa8;rw[if_pos i]
  rw[a];exact⟨rfl,h.finS hg 0⟩
 have g:=d;refine yx 2<|yc (rE e.kind 2) (fun f=>?_) fun f=>?_
 ·have j:=f;refine q7<|yp 5 [] (.l (h.c 1 3) (.l (h.c 1 4) .z))<|yo (yQ (h.met 0 fun F hA hF=>qjX hA (h.lt hg hT) hL e.w e.h) fun u h=>?_);refine yE (nB (qV ?_));have a:qa8 T e=(qcH T e.w e.h):=by unfold qa8;rw[if_neg g,if_pos j]
  rw[a];exact⟨rfl,h.finS hg 0⟩
 have k:=f;refine qm (nB (qV ?_));have a:qa8 T e=T:=by unfold qa8;rw[if_neg g,if_neg k]
 rw[a];exact⟨rfl,h.finS hg 0⟩
section
variable {w0 w:World}{F0:Nat->Prop}{l:List Asn}{t:Nat}{T:TS}
theorem Sep.app (h:Sep w0 F0 w l)(hg:Gz w0 F0)(hT:LT w0)(i:Nat)(e:Ev)(hFi:Fine T)(hz:e.data.size<=1000000)(hi:l[i]? =some (qau t T):=by rfl):CP 75 [pX t,.agg e.vals.toArray].toArray w fun x w'=>x= .returned (.tuple #[])/\Sep w0 F0 w' (l.set i (qau t (qa8 T e))):=
  h.stepA hg i (fun F hA hF=>apply_at e _ hA hF (h.lt hg hT) hFi hz) hi
theorem Sep.encT (h:Sep w0 F0 w l)(i:Nat)(he:EncOk T)(hi:l[i]? =some (qau t T):=by rfl):CP 27 [pX t].toArray w fun e w'=> ∃o n c,e= .returned (.slice (o.map at0) n c)/\Sep w0 F0 w' (l++[qaf tU8 1 o n c (u8s (qL T))]):=by
 obtain⟨F,hA,_⟩:=h.at hi;exact(qi7 (tmA.at hA) he).mono fun _ _ ⟨o,n,c,he,hO,_,hlo,hc⟩=>⟨o,n,c,he,h.fresh hO hlo hc⟩
end
theorem qd9 {w:World}{D off c:Nat}{x:Int}{l:List Int}(h:Rd w (some ⟨D,off,none⟩) (u8s (x::l)))(hl:l.length+1<=c):Rd w (some ⟨D,if c=1 then off else off+1*1,none⟩) (u8s l):=by
 split
 ·obtain rfl:l=[]:=iu (by omega);exact Rd.nil _ _
 exact qlg h 1
theorem qgt {fr:Int}{s s1:RS}{e:Ev}(h:evR fr s=(some e,s1)):evB e=true:=by
 unfold evR at h;dsimp only at h;split at h
 ·obtain⟨a,_⟩:=il h;split at a
  ·rename_i hh;rw[<-zi a];exact hh.2
  cases a
 obtain⟨a,_⟩:=il h;split at a
 ·rename_i hh;rw[<-zi a];exact hh.2
 cases a
theorem take_at1 (b:Nat)(r:Rc)(U:TS)(F:Nat->Prop)(a:Option Addr)(m c:Nat)(f:List Int)(w:World)(hA:(qej b ⟨r,U⟩).P w F)(hg:Gz w F)(hT:LT w)(hFi:Fine U)(heo:EncOk U)(hel:(qL U).length<=300000)(heB:byts (qL U))(hla:0<=qam r.evs/\qam r.evs<=4611686018427387904)(hen:r.evs.length+1<=10000000/\r.keys.length+1<=10000000)(hr:Rd w a (u8s f))(hl:f.length=m)(hle:m<=c)(hz:(m=0/\c=0)\/ ∃b o,a=some ⟨b,o,none⟩)(hby:byts f)(hm:m<=100000000)(hne:∀ad,a=some ad-> ¬F ad.block)(hlt:∀ad,a=some ad->ad.block<w.heap.size):CP 82 [pX b,.slice a m c].toArray w fun e w'=>e= .returned (.bool (qaQ ⟨r,U⟩ f).isSome)/\qkj (qej b ⟨r,U⟩) (qej b ((qaQ ⟨r,U⟩ f).getD ⟨r,U⟩)) F w w':=by
 obtain⟨x,h⟩:=Sep.startA hA hg;obtain⟨sa,sn,sc,eo,ec,ko,kc,kx,t⟩:=x;have B:=h.pure 4;have M:0<r.keys.length-> ∃kb,ko=some kb:=fun h1=>h.rc.kb h1;refine yA Tryz.func82 rfl<|yx 1<|ys<|yx 3<|yc (rE (m:Int) 0) (fun S=>?_) fun S=>?_
 ·have bf:=S;refine yx 1<|q9 (rS (yR1 (xF) ?_));obtain rfl:f=[]:=iu (by omega);rw[show qaQ ⟨r,U⟩ []=none from rfl];exact⟨rfl,(Sep.scan (start:=r.start) (evs:=r.evs) (keys:=r.keys) kx (h.ord [0,1,2,3,5]).eqv rfl rfl rfl rfl B).finS hg 0⟩
 have bg:=S;obtain⟨h0,_⟩|⟨D,p,rfl⟩:=hz
 ·exfalso;omega
 obtain⟨K,l,rfl⟩:∃K l,f=K::l:=by cases f with|nil=>simp at hl;omega|cons x y=>exact⟨x,y,rfl⟩
 have hD:=hne _ rfl;have ai:=hlt _ rfl;have bi:l.length+1=m:=hl;have g:byts l:=fun y hy=>hby y (iW _ hy);refine yk<|ys<|ysr<|yp 3 [] (.i 0 (m) (.l (qnx (b:=D) (o:=p) (hr.ch h.ch (fun ad e=>by cases e;exact hD)) 0 (Nat.zero_lt_succ _)) .z))<|ye<|qa<|yx 2<|yc (rE K 69) (fun V=>?_) fun V=>?_
 ·have W:=V;refine ysr<|yp 2 [] (.j 1 (m) .z)<|yo (yC (qpD D (some ⟨D,(if c=(1:Int).toNat then p else p+(1:Int).toNat*1),none⟩) (m-(1:Int).toNat) (c-(1:Int).toNat) l _ (qd9 (hr.ch h.ch (fun ad e=>by cases e;exact hD)) (by omega)) (by omega) (by omega) (.inr ⟨_,rfl⟩) g (by omega) (ic ai h.ch.size)) ?_);rintro _ u ⟨rv,rfl,aE,aF,aG⟩;refine⟨_,rfl,?_⟩;have h:=h.addR hD ai aF aE aG;refine yz 4<|ysr<|yq 4<|yo (yQ (h.look (qf6 b _ h.rc)) fun u h=>?_);obtain⟨vo,R,hE⟩:∃vo R,evR (qam r.evs) (some l)=(vo,R):=⟨_,_,rfl⟩
  refine yo (yQ (h.readO 6 hD fun hA=>qi5 (qam r.evs) _ hA hE hla) fun u h=>?_);refine yq 9<|yo (zN [iX 0,iX 0,oX,iX 0,iX 0] 66 h fun u bj h=>?_);refine yo (zs h 7 fun u h=>?_);refine yz 12<|ys<|ysr<|yq 3<|yw [31] (rN (rY vo.isSome)) (fun X=>?_) fun X=>?_
  ·have aH:=X;refine yz 7<|yct<|yx 1<|q9 (rS (rB (rS (yR1 (xF) ?_))));obtain rfl:K=69:=W;rw[qe1 hE (.inl (by simpa using aH))];exact⟨rfl,(Sep.scan (start:=r.start) (evs:=r.evs) (keys:=r.keys) kx (h.ord [0,1,2,3,5]).eqv rfl rfl rfl rfl B).finS hg 0⟩
  have aI:=X;obtain⟨ev,rfl⟩:=jC.1 aI;have aJ:=qgt hE;have aK:ev.data.size<=1000000:=by have:=(qg1 aJ).1.2;omega
  refine yq 4<|yo (yQ (h.look (qiZ (h.rdrO 6 hD))) fun u h=>?_);refine yz 7<|yc (rN (rY (decide (R=some [])))) (fun Y=>?_) fun Y=>?_
  ·have aL:=Y;refine yx 1<|q9 (rS (rB (rS (yR1 (xF) ?_))));obtain rfl:K=69:=W;rw[qe1 hE (.inr (by simpa using aL))];exact⟨rfl,(Sep.scan (start:=r.start) (evs:=r.evs) (keys:=r.keys) kx (h.ord [0,1,2,3,5]).eqv rfl rfl rfl rfl B).finS hg 0⟩
  have aM:=Y;refine yk<|ys<|zD [5] h fun u h=>yd (uL 0 5) [] (.l (h.c 0 3) (.a (h.cs 7 0 5) .z))<|yK 5 (yQ (h.app hg hT 5 ev hFi aK) fun u h=>?_);refine q8<|yDe (nS ?_);refine ys<|zDC [8,12] [0,2,3,4,5,6,7] h fun u h=>ydF (uL 0 7) [] h.on (fun u h=>(.l (h.c 0 1) (.a (h.cs 7 0 5) .z)))<|yH 7 (zB [iX ev.time,iX ev.kind,.string ev.data,iX ev.w,iX ev.h] 66 1 h fun u bk h=>?_);refine zHa h<|yK 8 (zA 1 48 1 1 (r.evs.length+1) (qdi (r.evs++[ev])) h (Rd.all (h.b 8)) rfl (hz:=(qj2 _ _).symm) fun u aN aO h bl=>?_);refine q8<|yd (uL 9 3) [] .z<|yK 12 (zs h 0 fun u h=>?_);refine q8<|yDe (nS ?_);refine yx 1<|q9 (rB (rS (yR1 (.bool true) ?_)));obtain rfl:K=69:=W;obtain rfl:R=some []:=by simpa using aM
  rw[qkw hE];exact⟨rfl,(Sep.scan (start:=r.start) (evs:=r.evs++[ev]) (keys:=r.keys) (sa:=sa) (sn:=sn) (sc:=sc) (ko:=ko) (kc:=kc) (t:=t) (n:=r.evs.length+1) (eo:=aN) (ec:=aO) kx (h.ord [0,1,2,3,5]).eqv (by simp) rfl rfl rfl ⟨B.sl,B.sz,B.kl,by rw[hJ];exact hen.1,by have:=hen.2;dsimp only;omega⟩).finS hg 0⟩
 have aP:=V;refine yx 2<|yc (rE K 75) (fun Z=>?_) fun Z=>?_
 ·have aQ:=Z;obtain rfl:K=75:=aQ;refine ys<|zDC [13] [0,1,2,3,4,5] h fun u h=>ydF (uL 0 10) [] h.on (fun u h=>(.l (h.c 0 1) (.l (h.c 0 3) .z)))<|qa5 10 12 (by kernel_rfl) (by decide) ?_ ?_
  ·refine qa4 10 _ (by kernel_rfl) rfl (yC (h.encT 5 heo) ?_);rintro _ u ⟨s,C,E,rfl,h⟩;refine⟨_,rfl,?_⟩;have N:(qL U).length=C:=by have:=h.len1 6;rwa[hZ]at this
   have L:s.map at0=none->E=0:=by intro e;cases hq:s with|none=>exact((h.own 6).2.2.2.1 hq).2|some q=>rw[hq]at e;cases e
   refine zHa h<|ydF [11] [] h.on (fun u h=> .z)<|yH 12 (zN [iX 0,nX] 51 h fun u aj h=>?_);refine zHa h<|yK 13 (zs h 7 fun u h=>?_);refine q8<|yDe (nS ?_);refine ys ?_;have h:=h.nrm 7 [iX (r.evs.length:Int),.slice (s.map at0) C E];refine qb9 (σ:=Bool) (fun gs=>[(0,pX b),(8,pX aj),(103,.bool gs)]) (fun gs u=>(gs=true->qaQ ⟨r,U⟩ (75::l)=none)/\(gs=false->qS ⟨r.evs.length,qL U⟩=l/\ ¬(0<r.keys.length/\(gky r.keys (r.keys.length-1)).after=r.evs.length))/\Sep w F u [qbX b [.slice sa sn sc,.slice (eo.map at0) r.evs.length ec,.slice (ko.map at0) r.keys.length kc,pX t] 104,qaf tEv 5 eo r.evs.length ec (qdi r.evs),qaf qgo 2 ko r.keys.length kc (qay kx r.keys 0),roA (roL ⟨sa,sn,sc,eo,ec,ko,kc,kx,t⟩ r),qcX (ScOk ⟨sa,sn,sc,eo,ec,ko,kc,kx,t⟩ r),qau t U,qaf tU8 1 s C E (u8s (qL U)),qbX aj [iX (r.evs.length:Int),.slice (s.map at0) C E] 51]) (fun bm I=>?_) (fun gs u h=>?_)
   ·refine zDC [1,2] [0,1,2,3,4,5,6,7] h fun u h=>ydF [0,3] [] h.on (fun u h=>(.a (h.cs 7 0 2) .z))<|ydT [4] [] h.on (fun _=>(.j 1 (m) .z))<|qa5 1 5 (by kernel_rfl) (by decide) ?_ ?_
    ·refine qH 1 _ (by kernel_rfl) rfl (yC (qcZ ⟨r.evs.length,qL U⟩ (s.map at0) C E _ (h.ownRd' 6) N L (by have:=N;omega) (by dsimp only;omega)) ?_);rintro _ u ⟨ak,a0,al,rfl,aR⟩;refine⟨_,rfl,?_⟩;have h:=h.join aR;have am:(qS ⟨r.evs.length,qL U⟩).length=a0:=by have:=h.len1 8;rwa[hZ]at this
     refine zK (is:=[0,1,2,3,4,5,6,7]) h<|qa5 2 5 (by kernel_rfl) (by decide) ?_ ?_
     ·refine qH 2 _ (by kernel_rfl) rfl (qr (ak.map at0) a0 al (qS ⟨r.evs.length,qL U⟩) (some 70) (by kernel_rfl) (h.ownRd' 8) am ?_);refine zK (is:=[0,1,2,3,4,5,6,7]) h<|yH 5 (qr (some ⟨D,(if c=(1:Int).toNat then p else p+(1:Int).toNat*1),none⟩) (m-(1:Int).toNat) (c-(1:Int).toNat) l (some 73) (by kernel_rfl) (qd9 (hr.ch h.ch (fun ad e=>by cases e;exact hD)) (by omega)) (by omega) ?_);refine zH h<|ydF [6,7] [] h.on (fun u h=> .z)<|yv [75] (rN (rY (((qe (qS ⟨r.evs.length,qL U⟩))).toList==((qe l)).toList))) (fun a1=>?_) fun a1=>?_
      ·have aS:=a1;refine ydF (uL 8 28) [] h.on (fun u h=> .z) ?_;have d:=qo (l:=qS ⟨r.evs.length,qL U⟩) (qj (qq (by dsimp only;omega)) heB) g;refine yDe (fun a ha=>I true _ ⟨fun _=>qax fun hh=>absurd hh.1 (iS (d.symm.trans aS)),fun e=>(by cases e),h.take 8⟩ a (ha.kp [0,8,103]))
      have an:=a1;refine ydF (uL 8 8) [] h.on (fun u h=>(.l (h.c 0 2) .z))<|yv [83] (rL 0 (r.keys.length:Int)) (fun a2=>?_) fun a2=>?_
      ·have bn:=a2;obtain⟨kb,rfl⟩:=M (by omega);refine ydF (uL 16 20) [] h.on (fun u h=>(.l (h.c 0 2) (.l (h.c 0 2) (.q6 ((r.keys.length:Int)-1) (.i ((r.keys.length:Int)-1) (r.keys.length) (.l (h.kya 2 ((r.keys.length:Int)-1) (r.keys.length-1) (hq:=(show(r.keys.length-1)<r.keys.length by omega))) (.l (h.c 7 0) .z))))))) ?_;have d:=qo (l:=qS ⟨r.evs.length,qL U⟩) (qj (qq (by dsimp only;omega)) heB) g;refine yDe (fun a ha=>I (((((gky r.keys (r.keys.length-1)).after:Nat):Int):Int)==(r.evs.length:Int)) _ ⟨fun e=>qax fun hh=>hh.2 ⟨by omega,by have:=iR.1 e;omega⟩,fun e=>⟨iB (d.symm.trans an),fun hh=>(ju.1 e) (by have:=hh.2;omega)⟩,h.take 8⟩ a (ha.kp [0,8,103]))
      have bo:=a2;refine ydF (uL 16 20) [] h.on (fun u h=> .z) ?_;have d:=qo (l:=qS ⟨r.evs.length,qL U⟩) (qj (qq (by dsimp only;omega)) heB) g;refine yDe (fun a ha=>I false _ ⟨fun e=>(by cases e),fun _=>⟨iB (d.symm.trans an),fun hh=>absurd hh.1 (by omega)⟩,h.take 8⟩ a (ha.kp [0,8,103]))
     refine qa4 5 _ (by kernel_rfl) rfl (qr (some ⟨D,(if c=(1:Int).toNat then p else p+(1:Int).toNat*1),none⟩) (m-(1:Int).toNat) (c-(1:Int).toNat) l (some 73) (by kernel_rfl) (qd9 (hr.ch h.ch (fun ad e=>by cases e;exact hD)) (by omega)) (by omega) ?_);refine zH h<|yK 2 (qr (ak.map at0) a0 al (qS ⟨r.evs.length,qL U⟩) (some 70) (by kernel_rfl) (h.ownRd' 8) am ?_);refine q8<|yd [6,7] [] .z<|yv [75] (rN (rY (((qe (qS ⟨r.evs.length,qL U⟩))).toList==((qe l)).toList))) (fun a3=>?_) fun a3=>?_
     ·have aT:=a3;refine yd (uL 8 28) [] .z ?_;have d:=qo (l:=qS ⟨r.evs.length,qL U⟩) (qj (qq (by dsimp only;omega)) heB) g;refine yDe (fun a ha=>I true _ ⟨fun _=>qax fun hh=>absurd hh.1 (iS (d.symm.trans aT)),fun e=>(by cases e),h.take 8⟩ a (ha.kp [0,8,103]))
     have ao:=a3;refine yd (uL 8 8) [] (.l (h.c 0 2) .z)<|yv [83] (rL 0 (r.keys.length:Int)) (fun a4=>?_) fun a4=>?_
     ·have bp:=a4;obtain⟨kb,rfl⟩:=M (by omega);refine yd (uL 16 20) [] (.l (h.c 0 2) (.l (h.c 0 2) (.q6 ((r.keys.length:Int)-1) (.i ((r.keys.length:Int)-1) (r.keys.length) (.l (h.kya 2 ((r.keys.length:Int)-1) (r.keys.length-1) (hq:=(show(r.keys.length-1)<r.keys.length by omega))) (.l (h.c 7 0) .z)))))) ?_;have d:=qo (l:=qS ⟨r.evs.length,qL U⟩) (qj (qq (by dsimp only;omega)) heB) g;refine yDe (fun a ha=>I (((((gky r.keys (r.keys.length-1)).after:Nat):Int):Int)==(r.evs.length:Int)) _ ⟨fun e=>qax fun hh=>hh.2 ⟨by omega,by have:=iR.1 e;omega⟩,fun e=>⟨iB (d.symm.trans ao),fun hh=>(ju.1 e) (by have:=hh.2;omega)⟩,h.take 8⟩ a (ha.kp [0,8,103]))
     have bq:=a4;refine yd (uL 16 20) [] .z ?_;have d:=qo (l:=qS ⟨r.evs.length,qL U⟩) (qj (qq (by dsimp only;omega)) heB) g;refine yDe (fun a ha=>I false _ ⟨fun e=>(by cases e),fun _=>⟨iB (d.symm.trans ao),fun hh=>absurd hh.1 (by omega)⟩,h.take 8⟩ a (ha.kp [0,8,103]))
    refine qa4 5 _ (by kernel_rfl) rfl (qr (some ⟨D,(if c=(1:Int).toNat then p else p+(1:Int).toNat*1),none⟩) (m-(1:Int).toNat) (c-(1:Int).toNat) l (some 73) (by kernel_rfl) (qd9 (hr.ch h.ch (fun ad e=>by cases e;exact hD)) (by omega)) (by omega) ?_);refine zH h<|yK 1 (yC (qcZ ⟨r.evs.length,qL U⟩ (s.map at0) C E _ (h.ownRd' 6) N L (by have:=N;omega) (by dsimp only;omega)) ?_);rintro _ u ⟨aU,ap,aV,rfl,aW⟩;refine⟨_,rfl,?_⟩;have h:=h.join aW;have aX:(qS ⟨r.evs.length,qL U⟩).length=ap:=by have:=h.len1 8;rwa[hZ]at this
    refine q8<|yK 2 (qr (aU.map at0) ap aV (qS ⟨r.evs.length,qL U⟩) (some 70) (by kernel_rfl) (h.ownRd' 8) aX ?_);refine q8<|yd [6,7] [] .z<|yv [75] (rN (rY (((qe (qS ⟨r.evs.length,qL U⟩))).toList==((qe l)).toList))) (fun a5=>?_) fun a5=>?_
    ·have aY:=a5;refine yd (uL 8 28) [] .z ?_;have d:=qo (l:=qS ⟨r.evs.length,qL U⟩) (qj (qq (by dsimp only;omega)) heB) g;refine yDe (fun a ha=>I true _ ⟨fun _=>qax fun hh=>absurd hh.1 (iS (d.symm.trans aY)),fun e=>(by cases e),h.take 8⟩ a (ha.kp [0,8,103]))
    have aq:=a5;refine yd (uL 8 8) [] (.l (h.c 0 2) .z)<|yv [83] (rL 0 (r.keys.length:Int)) (fun a6=>?_) fun a6=>?_
    ·have br:=a6;obtain⟨kb,rfl⟩:=M (by omega);refine yd (uL 16 20) [] (.l (h.c 0 2) (.l (h.c 0 2) (.q6 ((r.keys.length:Int)-1) (.i ((r.keys.length:Int)-1) (r.keys.length) (.l (h.kya 2 ((r.keys.length:Int)-1) (r.keys.length-1) (hq:=(show(r.keys.length-1)<r.keys.length by omega))) (.l (h.c 7 0) .z)))))) ?_;have d:=qo (l:=qS ⟨r.evs.length,qL U⟩) (qj (qq (by dsimp only;omega)) heB) g;refine yDe (fun a ha=>I (((((gky r.keys (r.keys.length-1)).after:Nat):Int):Int)==(r.evs.length:Int)) _ ⟨fun e=>qax fun hh=>hh.2 ⟨by omega,by have:=iR.1 e;omega⟩,fun e=>⟨iB (d.symm.trans aq),fun hh=>(ju.1 e) (by have:=hh.2;omega)⟩,h.take 8⟩ a (ha.kp [0,8,103]))
    have bs:=a6;refine yd (uL 16 20) [] .z ?_;have d:=qo (l:=qS ⟨r.evs.length,qL U⟩) (qj (qq (by dsimp only;omega)) heB) g;refine yDe (fun a ha=>I false _ ⟨fun e=>(by cases e),fun _=>⟨iB (d.symm.trans aq),fun hh=>absurd hh.1 (by omega)⟩,h.take 8⟩ a (ha.kp [0,8,103]))
   obtain⟨a7,O,h⟩:=h;refine yc (rY gs) (fun a8=>?_) fun a8=>?_
   ·have aZ:=a8;refine yx 1<|q9 (rS (rB (rS (yR1 (xF) ?_))));rw[a7 aZ];exact⟨rfl,(Sep.scan (start:=r.start) (evs:=r.evs) (keys:=r.keys) kx (h.ord [0,1,2,3,5]).eqv rfl rfl rfl rfl B).finS hg 0⟩
   have ar:=a8;refine yk<|ys<|zDC [8,12] [0,1,3,4,5,6,7] h fun u h=>ydF (uL 0 7) [] h.on (fun u h=>(.l (h.c 0 2) (.a (h.cs 7 0 2) .z)))<|yH 7 (zB [iX (r.evs.length:Int),.slice (s.map at0) C E] 51 1 h fun u bt h=>?_);refine zHa h<|yK 8 (zA 2 32 1 1 (r.keys.length+1) (qay (kxS kx r.keys.length (s.map at0,C,E)) (r.keys++[⟨r.evs.length,qL U⟩]) 0) h (Rd.all (h.b 8)) rfl (hz:=qfG (k:=⟨r.evs.length,qL U⟩) (v:=(s.map at0,C,E))) fun u b0 b1 h bu=>?_);refine q8<|yd (uL 9 3) [] .z<|yK 12 (zs h 0 fun u h=>?_);refine q8<|yDe (nS ?_);refine yx 1<|q9 (rB (rS (yR1 (.bool true) ?_)));rw[qhd (O ar).1 (O ar).2];have h:=h.toRo 3 6 (s.map at0) (qL U) fun hO=>⟨hO.rd,fun ad e=>by cases hq:s with|none=>rw[hq]at e;cases e|some q=>rw[hq]at e;obtain rfl:=zi e;rfl⟩
   exact⟨rfl,(Sep.scan (start:=r.start) (evs:=r.evs) (keys:=r.keys++[⟨r.evs.length,qL U⟩]) (eo:=eo) (ec:=ec) (t:=t) (m:=r.keys.length+1) (ko:=b0) (kc:=b1) (kxS kx r.keys.length (s.map at0,C,E)) (h.ord [0,1,2,3,5]).eqv rfl (by simp) rfl (qj4 (x:=⟨sa,sn,sc,eo,ec,ko,kc,kx,t⟩) (r:=r) (k:=⟨r.evs.length,qL U⟩) (v:=(s.map at0,C,E)) rfl rfl rfl rfl) (qhc B ⟨rfl,rfl,rfl⟩ rfl rfl rfl N L ⟨by have:=hen.1;dsimp only;omega,by rw[hJ];exact hen.2⟩)).finS hg 0⟩
  refine qa4 12 _ (by kernel_rfl) rfl (zN [iX 0,nX] 51 h fun u au h=>?_);refine zHa h<|yH 10 (yC (h.encT 5 heo) ?_);rintro _ u ⟨A,G,H,rfl,h⟩;refine⟨_,rfl,?_⟩;have Q:(qL U).length=G:=by have:=h.len1 7;rwa[hZ]at this
  have L:A.map at0=none->H=0:=by intro e;cases hq:A with|none=>exact((h.own 7).2.2.2.1 hq).2|some q=>rw[hq]at e;cases e
  refine zHa h<|ydF [11] [] h.on (fun u h=> .z)<|yK 13 (zs h 6 fun u h=>?_);refine q8<|yDe (nS ?_);refine ys ?_;have h:=h.nrm 6 [iX (r.evs.length:Int),.slice (A.map at0) G H];refine qb9 (σ:=Bool) (fun gs=>[(0,pX b),(8,pX au),(103,.bool gs)]) (fun gs u=>(gs=true->qaQ ⟨r,U⟩ (75::l)=none)/\(gs=false->qS ⟨r.evs.length,qL U⟩=l/\ ¬(0<r.keys.length/\(gky r.keys (r.keys.length-1)).after=r.evs.length))/\Sep w F u [qbX b [.slice sa sn sc,.slice (eo.map at0) r.evs.length ec,.slice (ko.map at0) r.keys.length kc,pX t] 104,qaf tEv 5 eo r.evs.length ec (qdi r.evs),qaf qgo 2 ko r.keys.length kc (qay kx r.keys 0),roA (roL ⟨sa,sn,sc,eo,ec,ko,kc,kx,t⟩ r),qcX (ScOk ⟨sa,sn,sc,eo,ec,ko,kc,kx,t⟩ r),qau t U,qbX au [iX (r.evs.length:Int),.slice (A.map at0) G H] 51,qaf tU8 1 A G H (u8s (qL U))]) (fun bv J=>?_) (fun gs u h=>?_)
  ·refine zDC [1,2] [0,1,2,3,4,5,6,7] h fun u h=>ydF [0,3] [] h.on (fun u h=>(.a (h.cs 6 0 2) .z))<|ydT [4] [] h.on (fun _=>(.j 1 (m) .z))<|qa5 1 5 (by kernel_rfl) (by decide) ?_ ?_
   ·refine qH 1 _ (by kernel_rfl) rfl (yC (qcZ ⟨r.evs.length,qL U⟩ (A.map at0) G H _ (h.ownRd' 7) Q L (by have:=Q;omega) (by dsimp only;omega)) ?_);rintro _ u ⟨av,a9,aw,rfl,b2⟩;refine⟨_,rfl,?_⟩;have h:=h.join b2;have ax:(qS ⟨r.evs.length,qL U⟩).length=a9:=by have:=h.len1 8;rwa[hZ]at this
    refine zK (is:=[0,1,2,3,4,5,6,7]) h<|qa5 2 5 (by kernel_rfl) (by decide) ?_ ?_
    ·refine qH 2 _ (by kernel_rfl) rfl (qr (av.map at0) a9 aw (qS ⟨r.evs.length,qL U⟩) (some 70) (by kernel_rfl) (h.ownRd' 8) ax ?_);refine zK (is:=[0,1,2,3,4,5,6,7]) h<|yH 5 (qr (some ⟨D,(if c=(1:Int).toNat then p else p+(1:Int).toNat*1),none⟩) (m-(1:Int).toNat) (c-(1:Int).toNat) l (some 73) (by kernel_rfl) (qd9 (hr.ch h.ch (fun ad e=>by cases e;exact hD)) (by omega)) (by omega) ?_);refine zH h<|ydF [6,7] [] h.on (fun u h=> .z)<|yv [75] (rN (rY (((qe (qS ⟨r.evs.length,qL U⟩))).toList==((qe l)).toList))) (fun aa=>?_) fun aa=>?_
     ·have b3:=aa;refine ydF (uL 8 28) [] h.on (fun u h=> .z) ?_;have d:=qo (l:=qS ⟨r.evs.length,qL U⟩) (qj (qq (by dsimp only;omega)) heB) g;refine yDe (fun a ha=>J true _ ⟨fun _=>qax fun hh=>absurd hh.1 (iS (d.symm.trans b3)),fun e=>(by cases e),h.take 8⟩ a (ha.kp [0,8,103]))
     have ay:=aa;refine ydF (uL 8 8) [] h.on (fun u h=>(.l (h.c 0 2) .z))<|yv [83] (rL 0 (r.keys.length:Int)) (fun ab=>?_) fun ab=>?_
     ·have bw:=ab;obtain⟨kb,rfl⟩:=M (by omega);refine ydF (uL 16 20) [] h.on (fun u h=>(.l (h.c 0 2) (.l (h.c 0 2) (.q6 ((r.keys.length:Int)-1) (.i ((r.keys.length:Int)-1) (r.keys.length) (.l (h.kya 2 ((r.keys.length:Int)-1) (r.keys.length-1) (hq:=(show(r.keys.length-1)<r.keys.length by omega))) (.l (h.c 6 0) .z))))))) ?_;have d:=qo (l:=qS ⟨r.evs.length,qL U⟩) (qj (qq (by dsimp only;omega)) heB) g;refine yDe (fun a ha=>J (((((gky r.keys (r.keys.length-1)).after:Nat):Int):Int)==(r.evs.length:Int)) _ ⟨fun e=>qax fun hh=>hh.2 ⟨by omega,by have:=iR.1 e;omega⟩,fun e=>⟨iB (d.symm.trans ay),fun hh=>(ju.1 e) (by have:=hh.2;omega)⟩,h.take 8⟩ a (ha.kp [0,8,103]))
     have bx:=ab;refine ydF (uL 16 20) [] h.on (fun u h=> .z) ?_;have d:=qo (l:=qS ⟨r.evs.length,qL U⟩) (qj (qq (by dsimp only;omega)) heB) g;refine yDe (fun a ha=>J false _ ⟨fun e=>(by cases e),fun _=>⟨iB (d.symm.trans ay),fun hh=>absurd hh.1 (by omega)⟩,h.take 8⟩ a (ha.kp [0,8,103]))
    refine qa4 5 _ (by kernel_rfl) rfl (qr (some ⟨D,(if c=(1:Int).toNat then p else p+(1:Int).toNat*1),none⟩) (m-(1:Int).toNat) (c-(1:Int).toNat) l (some 73) (by kernel_rfl) (qd9 (hr.ch h.ch (fun ad e=>by cases e;exact hD)) (by omega)) (by omega) ?_);refine zH h<|yK 2 (qr (av.map at0) a9 aw (qS ⟨r.evs.length,qL U⟩) (some 70) (by kernel_rfl) (h.ownRd' 8) ax ?_);refine q8<|yd [6,7] [] .z<|yv [75] (rN (rY (((qe (qS ⟨r.evs.length,qL U⟩))).toList==((qe l)).toList))) (fun ac=>?_) fun ac=>?_
    ·have b4:=ac;refine yd (uL 8 28) [] .z ?_;have d:=qo (l:=qS ⟨r.evs.length,qL U⟩) (qj (qq (by dsimp only;omega)) heB) g;refine yDe (fun a ha=>J true _ ⟨fun _=>qax fun hh=>absurd hh.1 (iS (d.symm.trans b4)),fun e=>(by cases e),h.take 8⟩ a (ha.kp [0,8,103]))
    have az:=ac;refine yd (uL 8 8) [] (.l (h.c 0 2) .z)<|yv [83] (rL 0 (r.keys.length:Int)) (fun ae=>?_) fun ae=>?_
    ·have bz:=ae;obtain⟨kb,rfl⟩:=M (by omega);refine yd (uL 16 20) [] (.l (h.c 0 2) (.l (h.c 0 2) (.q6 ((r.keys.length:Int)-1) (.i ((r.keys.length:Int)-1) (r.keys.length) (.l (h.kya 2 ((r.keys.length:Int)-1) (r.keys.length-1) (hq:=(show(r.keys.length-1)<r.keys.length by omega))) (.l (h.c 6 0) .z)))))) ?_;have d:=qo (l:=qS ⟨r.evs.length,qL U⟩) (qj (qq (by dsimp only;omega)) heB) g;refine yDe (fun a ha=>J (((((gky r.keys (r.keys.length-1)).after:Nat):Int):Int)==(r.evs.length:Int)) _ ⟨fun e=>qax fun hh=>hh.2 ⟨by omega,by have:=iR.1 e;omega⟩,fun e=>⟨iB (d.symm.trans az),fun hh=>(ju.1 e) (by have:=hh.2;omega)⟩,h.take 8⟩ a (ha.kp [0,8,103]))
    have bA:=ae;refine yd (uL 16 20) [] .z ?_;have d:=qo (l:=qS ⟨r.evs.length,qL U⟩) (qj (qq (by dsimp only;omega)) heB) g;refine yDe (fun a ha=>J false _ ⟨fun e=>(by cases e),fun _=>⟨iB (d.symm.trans az),fun hh=>absurd hh.1 (by omega)⟩,h.take 8⟩ a (ha.kp [0,8,103]))
   refine qa4 5 _ (by kernel_rfl) rfl (qr (some ⟨D,(if c=(1:Int).toNat then p else p+(1:Int).toNat*1),none⟩) (m-(1:Int).toNat) (c-(1:Int).toNat) l (some 73) (by kernel_rfl) (qd9 (hr.ch h.ch (fun ad e=>by cases e;exact hD)) (by omega)) (by omega) ?_);refine zH h<|yK 1 (yC (qcZ ⟨r.evs.length,qL U⟩ (A.map at0) G H _ (h.ownRd' 7) Q L (by have:=Q;omega) (by dsimp only;omega)) ?_);rintro _ u ⟨b5,aA,b6,rfl,b7⟩;refine⟨_,rfl,?_⟩;have h:=h.join b7;have b8:(qS ⟨r.evs.length,qL U⟩).length=aA:=by have:=h.len1 8;rwa[hZ]at this
   refine q8<|yK 2 (qr (b5.map at0) aA b6 (qS ⟨r.evs.length,qL U⟩) (some 70) (by kernel_rfl) (h.ownRd' 8) b8 ?_);refine q8<|yd [6,7] [] .z<|yv [75] (rN (rY (((qe (qS ⟨r.evs.length,qL U⟩))).toList==((qe l)).toList))) (fun af=>?_) fun af=>?_
   ·have b9:=af;refine yd (uL 8 28) [] .z ?_;have d:=qo (l:=qS ⟨r.evs.length,qL U⟩) (qj (qq (by dsimp only;omega)) heB) g;refine yDe (fun a ha=>J true _ ⟨fun _=>qax fun hh=>absurd hh.1 (iS (d.symm.trans b9)),fun e=>(by cases e),h.take 8⟩ a (ha.kp [0,8,103]))
   have aB:=af;refine yd (uL 8 8) [] (.l (h.c 0 2) .z)<|yv [83] (rL 0 (r.keys.length:Int)) (fun ag=>?_) fun ag=>?_
   ·have bB:=ag;obtain⟨kb,rfl⟩:=M (by omega);refine yd (uL 16 20) [] (.l (h.c 0 2) (.l (h.c 0 2) (.q6 ((r.keys.length:Int)-1) (.i ((r.keys.length:Int)-1) (r.keys.length) (.l (h.kya 2 ((r.keys.length:Int)-1) (r.keys.length-1) (hq:=(show(r.keys.length-1)<r.keys.length by omega))) (.l (h.c 6 0) .z)))))) ?_;have d:=qo (l:=qS ⟨r.evs.length,qL U⟩) (qj (qq (by dsimp only;omega)) heB) g;refine yDe (fun a ha=>J (((((gky r.keys (r.keys.length-1)).after:Nat):Int):Int)==(r.evs.length:Int)) _ ⟨fun e=>qax fun hh=>hh.2 ⟨by omega,by have:=iR.1 e;omega⟩,fun e=>⟨iB (d.symm.trans aB),fun hh=>(ju.1 e) (by have:=hh.2;omega)⟩,h.take 8⟩ a (ha.kp [0,8,103]))
   have bC:=ag;refine yd (uL 16 20) [] .z ?_;have d:=qo (l:=qS ⟨r.evs.length,qL U⟩) (qj (qq (by dsimp only;omega)) heB) g;refine yDe (fun a ha=>J false _ ⟨fun e=>(by cases e),fun _=>⟨iB (d.symm.trans aB),fun hh=>absurd hh.1 (by omega)⟩,h.take 8⟩ a (ha.kp [0,8,103]))
  obtain⟨a7,O,h⟩:=h;refine yc (rY gs) (fun ah=>?_) fun ah=>?_
  ·have ba:=ah;refine yx 1<|q9 (rS (rB (rS (yR1 (xF) ?_))));rw[a7 ba];exact⟨rfl,(Sep.scan (start:=r.start) (evs:=r.evs) (keys:=r.keys) kx (h.ord [0,1,2,3,5]).eqv rfl rfl rfl rfl B).finS hg 0⟩
  have aC:=ah;refine yk<|ys<|zDC [8,12] [0,1,3,4,5,6,7] h fun u h=>ydF (uL 0 7) [] h.on (fun u h=>(.l (h.c 0 2) (.a (h.cs 6 0 2) .z)))<|yH 7 (zB [iX (r.evs.length:Int),.slice (A.map at0) G H] 51 1 h fun u bD h=>?_);refine zHa h<|yK 8 (zA 2 32 1 1 (r.keys.length+1) (qay (kxS kx r.keys.length (A.map at0,G,H)) (r.keys++[⟨r.evs.length,qL U⟩]) 0) h (Rd.all (h.b 8)) rfl (hz:=qfG (k:=⟨r.evs.length,qL U⟩) (v:=(A.map at0,G,H))) fun u bb bc h bE=>?_);refine q8<|yd (uL 9 3) [] .z<|yK 12 (zs h 0 fun u h=>?_);refine q8<|yDe (nS ?_);refine yx 1<|q9 (rB (rS (yR1 (.bool true) ?_)));rw[qhd (O aC).1 (O aC).2];have h:=h.toRo 3 7 (A.map at0) (qL U) fun hO=>⟨hO.rd,fun ad e=>by cases hq:A with|none=>rw[hq]at e;cases e|some q=>rw[hq]at e;obtain rfl:=zi e;rfl⟩
  exact⟨rfl,(Sep.scan (start:=r.start) (evs:=r.evs) (keys:=r.keys++[⟨r.evs.length,qL U⟩]) (eo:=eo) (ec:=ec) (t:=t) (m:=r.keys.length+1) (ko:=bb) (kc:=bc) (kxS kx r.keys.length (A.map at0,G,H)) (h.ord [0,1,2,3,5]).eqv rfl (by simp) rfl (qj4 (x:=⟨sa,sn,sc,eo,ec,ko,kc,kx,t⟩) (r:=r) (k:=⟨r.evs.length,qL U⟩) (v:=(A.map at0,G,H)) rfl rfl rfl rfl) (qhc B ⟨rfl,rfl,rfl⟩ rfl rfl rfl Q L ⟨by have:=hen.1;dsimp only;omega,by rw[hJ];exact hen.2⟩)).finS hg 0⟩
 have bd:=Z;refine qm (nB (nS ?_));refine yx 1<|q9 (yR1 (xF) ?_);rw[qgq aP bd];exact⟨rfl,(Sep.scan (start:=r.start) (evs:=r.evs) (keys:=r.keys) kx (h.ord [0,1,2,3,5]).eqv rfl rfl rfl rfl B).finS hg 0⟩
theorem qlq {l:List Cel}(hw:qb5 l=true)(hc:∀c∈l,cOk c):okC l:=by
 refine⟨fun c hm=>?_,hw⟩;obtain⟨i,hi,rfl⟩:=List.mem_iff_getElem.1 hm;refine⟨(hc _ hm).1,?_⟩;obtain⟨_,a⟩:=wholeB_iff.1 hw i hi;rw[qde hi]at a;by_cases b:(l[i]).rune=0
 ·exact .inl b
 ·have:=(a b).1
  unfold qkH at this;rw[ii]at this;exact .inr this.1
theorem qkz {T:TS}(h:DecOk T):Okt true T.grid.w T.grid.h T:=by
 have hw:=h.w;have hh:=h.h;refine⟨⟨hw,hh,⟨rfl,rfl⟩,h.o,⟨h.c.x,h.c.y⟩,⟨h.s.x,h.s.y⟩,⟨h.a.x,h.a.y⟩,h.t,h.k.1,h.r⟩,⟨fun l hl=>qlq (h.g.2 l hl).2.1 (h.g.2 l hl).2.2,h.g.1,fun l hl=>by have:=(h.g.2 l hl).1;omega⟩,⟨fun l hl=>qlq (h.g2.2 l hl).2.1 (h.g2.2 l hl).2.2,by rw[h.g2.1,h.o.2],fun l hl=>by have:=(h.g2.2 l hl).1;rw[h.o.1];omega⟩,fun l hl=>?_,h.c.s,fun _=>h.c.l,h.s.s,h.s.l,h.a.s,h.a.l,h.ti⟩;obtain⟨b,d,f,i⟩:=h.k.2 l hl;exact⟨qlq f i,fun e=>by rw[e]at b;simp at b,d⟩
theorem qq7 {s:ByteArray}(h:zb s=true):s=ByteArray.empty:=qhR h
theorem qq8 {c:Int}(h:qkc c=true):lowM c:=by
 unfold qkc at h;rw[ii,iv,iv]at h;exact h
theorem wideM_of {c:Int}(h:qbW c=true):wideM c:=by
 unfold qbW at h;rw[jx,ii,iv,iv]at h;exact h.elim (fun h=> .inl (qq8 h)) .inr
theorem bare_eq {u:US}(h:qcU u=true):u=u0:=by
 unfold qcU at h;simp only[ii,iR]at h;obtain⟨⟨⟨a,b⟩,c⟩,d⟩:=h;cases u;dsimp only at a b c d;subst a b c d;rfl
theorem uR_of {u:US}(h:utB u=true):uR u:=by
 unfold utB at h;simp only[ii,iv,jx,iR,jv]at h;obtain⟨⟨⟨e,f⟩,g⟩,d⟩:=h;obtain⟨a,b,c,n⟩:=u;dsimp only at*;have hn:n=0\/n=1\/n=2\/n=3:=by omega
 rcases hn with rfl|rfl|rfl|rfl<;>simp_all<;>exact⟨⟨by dsimp only;omega,by dsimp only;omega⟩,fun h=>by first|(exfalso;omega)|omega|simp_all,fun h=>by first|(exfalso;omega)|omega|simp_all,fun h=>by first|(exfalso;omega)|omega|simp_all,by first|exact .inl rfl|exact .inr d⟩
theorem qq9 {n:Nat}{f:Nat->Bool}(h:(List.range n).all f=true):∀i,i<n->f i=true:=fun i hi=>j6.1 h i (jz.2 hi)
theorem qqa {p:PS}(h:ParsOk p):PRight p:=by
 have x:=h.st;have hr:=h.r;unfold qI at hr;by_cases f:(p.state≠7/\p.within≠0)\/(p.state≠0/\qcU p.utf=false)
 ·rw[if_pos f]at hr;cases hr
 rw[if_neg f]at hr;have b:p.state≠7->p.within=0:=fun e=>Classical.byContradiction fun k=>f (.inl ⟨e,k⟩);have hu:p.state≠0->p.utf=u0:=fun e=>bare_eq (Classical.byContradiction fun k=>f (.inr ⟨e,by simpa using k⟩));have g:qgY p=true->p.marks=ByteArray.empty/\p.params=[]:=fun e=>by
  unfold qgY at e;rw[ii,iR]at e;exact⟨qq7 e.1,iu e.2⟩
 have n:qdy p.text=true->allB (fun c=>32<=c) p.text:=fun e i hi=>by
  unfold qdy at e;rw[ii]at e;exact iB (qq9 e.1 i hi)
 have hz:p.text=ByteArray.empty->allB (fun c=>32<=c) p.text:=fun e=>by rw[e];exact qgh _
 by_cases l:p.state=0
 ·rw[if_pos l,ii,ii]at hr
  obtain⟨⟨a,j⟩,d⟩:=hr;have q:=g j;have z:=qq7 d;exact⟨by omega,b,fun e=>by omega,hu,uR_of a,fun _ _ _=>q.1,fun _ _=>q.2,fun _=>z,fun e=>by omega,fun e=>by omega,hz z⟩
 have u':uR p.utf:=by rw[hu l];exact uR0
 rw[if_neg l]at hr;by_cases o:p.state=1
 ·rw[if_pos o,ii]at hr
  have q:=g hr.1;have z:=qq7 hr.2;exact⟨by omega,b,fun e=>by omega,hu,u',fun _ _ _=>q.1,fun _ _=>q.2,fun _=>z,fun e=>by omega,fun e=>by omega,hz z⟩
 rw[if_neg o]at hr;by_cases m:p.state=2
 ·rw[if_pos m,ii,ii,iR]at hr
  obtain⟨⟨a,j⟩,d⟩:=hr;have z:=qq7 d;unfold qbi at a;rw[ii,ii,iv]at a;exact⟨by omega,b,fun e=>by omega,hu,u',fun e=>absurd m e,fun _ _=>iu j,fun _=>z,fun _=>⟨a.1.1,fun i hi=>qq8 (qq9 a.2 i hi)⟩,fun e=>by omega,hz z⟩
 rw[if_neg m]at hr;by_cases s:p.state=3\/p.state=4
 ·rw[if_pos s,ii,ii]at hr
  obtain⟨⟨a,j⟩,d⟩:=hr;have z:=qq7 d;unfold qbi at a;rw[ii]at a;exact⟨by omega,b,fun e=>by omega,hu,u',fun _ v w=>by omega,fun v w=>by omega,fun _=>z,fun e=>by omega,fun _ i hi=>wideM_of (qq9 a.2 i hi),hz z⟩
 rw[if_neg s]at hr;by_cases t:p.state=7
 ·rw[if_pos t]at hr
  by_cases u:p.within≠5/\p.within≠6
  ·rw[if_pos u]at hr;cases hr
  rw[if_neg u,ii]at hr;have q:=g hr.1;exact⟨by omega,b,fun _=>by omega,hu,u',fun _ _ _=>q.1,fun _ _=>q.2,fun e=>by omega,fun e=>by omega,fun e=>by omega,n hr.2⟩
 rw[if_neg t,if_pos (by omega),ii]at hr;have q:=g hr.1;exact⟨by omega,b,fun e=>by omega,hu,u',fun _ _ _=>q.1,fun _ _=>q.2,fun e=>by omega,fun e=>by omega,fun e=>by omega,n hr.2⟩
theorem qqb {T:TS}(h:DecOk T):OkS T:=by
 have hp:=h.p;exact⟨⟨_,_,qkz h⟩,qqa hp,⟨⟨_,_,(qkz h).lim⟩,⟨hp.u,hp.m,hp.t,hp.n,hp.b⟩⟩⟩
theorem qqc:∀(bs:List Int) (T:TS),byts bs->qiV (some bs)=some T->OkS T:=fun bs T hb hd=>by
 obtain⟨ys,e1,e2,hD⟩:=qh0 (s:=some bs) (fun zs e=>by obtain rfl:=ia e;exact hb) hd
 exact qqb hD
structure DecW (dec:List Int->Option TS):Prop where
 no:∀q,byts q->qiV (some q)=none->dec q=none
 yes:∀q T,byts q->qiV (some q)=some T-> ∃T',dec q=some T'/\OkS T'/\ ∀{w:World} {t:Nat} {F:Nat->Prop},TermAt w t T F->TermAt w t T' F
theorem decW_B:DecW (fun b=>qiV (some b)):=⟨fun _ _ h=>h,fun q T hb h=>⟨T,h,qqc q T hb h,fun h=>h⟩⟩
def decW (T0:TS)(b:List Int):Option TS:=if b=qL T0 then some T0 else qiV (some b)
theorem decW_at (T0:TS):decW T0 (qL T0)=some T0:=if_pos rfl
theorem decW_of {T0:TS}(h:OkS T0):DecW (decW T0):=by
 refine⟨fun q hb hq=>?_,fun q T hb hq=>?_⟩
 ·unfold decW
  rw[if_neg,hq];rintro rfl;rw[qki h.dec]at hq;cases hq
 ·unfold decW
  split
  ·rename_i e
   subst e;rw[qki h.dec]at hq;obtain rfl:=ia hq;exact⟨T0,rfl,h,fun h=>h.back⟩
  ·exact⟨T,hq,qqc q T hb hq,fun h=>h⟩
theorem OkS.ap {T:TS}(h:OkS T){e:Ev}(hB:evB e=true):OkS (qa8 T e):=by
 have b:=(qg1 hB).2;unfold qa8;split
 ·have:=h.doN [⟨e.data,0,0⟩] 1;exact this
 split
 ·have:=h.doN [⟨e.data,e.w,e.h⟩] 1;have a:X.doN T [⟨e.data,e.w,e.h⟩] 1=qcH T e.w e.h:=by
   show doT T ⟨e.data,e.w,e.h⟩=_;exact if_neg (by dsimp only;omega)
  rw[a]at this;exact this
 exact h
theorem qmt {s s':Sc}{f:List Int}(h:qaQ s f=some s')(hO:OkS s.T)(hl:0<=qam s.r.evs/\qam s.r.evs<=4611686018427387904):OkS s'.T/\0<=qam s'.r.evs/\qam s'.r.evs<=4611686018427387904:=by
 unfold qaQ at h;split at h
 ·cases h
 split at h
 ·unfold qg3 at h;split at h
  ·rename_i e he;have hb:=qgt he;obtain rfl:=zi h;refine⟨hO.ap hb,?_⟩;have:qam (s.r.evs++[e])=e.time:=by unfold qam qY;rw[if_neg (by simp),hJ,j1,k8,qfD]
   dsimp only;rw[this];have:=(qg1 hb).1.1;omega
  cases h
 split at h
 ·unfold qks at h;split at h
  ·obtain rfl:=zi h;exact⟨hO,hl⟩
  cases h
 cases h
section
variable {w0 w:World}{F0:Nat->Prop}{l:List Asn}
theorem Sep.takeS {b:Nat}{s:Sc}{o:Option Nat}{m c:Nat}{f:List Int}(h:Sep w0 F0 w l)(hg:Gz w0 F0)(hT:LT w0)(i j:Nat)(hO:OkS s.T)(hla:0<=qam s.r.evs/\qam s.r.evs<=4611686018427387904)(hen:s.r.evs.length+1<=10000000/\s.r.keys.length+1<=10000000)(hby:byts f)(hij:i≠j)(hi:l[i]? =some (qej b s):=by rfl)(hj:l[j]? =some (qaf tU8 1 o m c (u8s f)):=by rfl)(hm:m<=100000000:=by omega):
    CP 82 [pX b,.slice (o.map at0) m c].toArray w fun e w'=>e= .returned (.bool (qaQ s f).isSome)/\Sep w0 F0 w' (l.set i (qej b ((qaQ s f).getD s))):=by
  have a:=h.own j hj;have hd:=hO.dec;have n:=h.lt hg hT;obtain⟨F,d,g,k⟩:=h.ex;have p:=h.gz hg (k i);refine(take_at1 b s.r s.T (F i) (o.map at0) m c f w (d i _ hi) p n hO.fine hd.enc (qc1 hd) (qcc hd) hla hen a.rd a.len1' a.2.1 ?_ hby hm ?_ ?_).mono fun e w' ⟨he,hA,hc⟩=>⟨he,h.upd hi F d g k hA hc⟩
  · cases o with
    |none=>exact .inl (a.2.2.2.1 rfl)
    |some q=>exact .inr ⟨q,0,rfl⟩
  · intro ad ha hF
    cases o with
    |none=>cases ha
    |some q=>
      obtain rfl:=zi ha;exact g i j hij q hF ((d j _ hj).2 q rfl)
  · intro ad ha
    cases o with
    |none=>cases ha
    |some q=>
      obtain rfl:=zi ha;exact a.lt
end
theorem rd_at1 {w:World}{D off cap n i:Nat}{l:List Int}(h:Rd w (some ⟨D,off,none⟩) (u8s l))(hl:l.length=n)(hle:n<=cap)(hi:i<=n):Rd w (some ⟨D,if cap=i then off else off+i*1,none⟩) (u8s (l.drop i)):=by
 split
 ·have:l.drop i=[]:=jH (by omega);rw[this];exact Rd.nil _ _
 exact qlg h i
theorem qqd {dec:List Int->Option TS}(a:Option Addr)(n cap:Nat)(l:List Int)(w:World)(hT:LT w)(h7:gTop<=w.heap.size)(hr:Rd w a (u8s l))(hl:l.length=n)(hle:n<=cap)(hz:(n=0/\cap=0)\/ ∃b o,a=some ⟨b,o,none⟩)(hby:byts l)(hn:n<=9000000)(hdk:DecW dec):CP 52 [.slice a n cap].toArray w fun e w'=> ∃v k,e= .returned (.tuple #[v,iX ((k:Nat):Int)])/\((qd8 dec l=none/\v= .pointer none/\k=0/\Ch (fun _=>False) w w')\/ ∃b s,qd8 dec l=some (s,k)/\v=pX b/\NewA (qej b s) w w'):=by
 have h:=Sep.nil w;refine yA Tryz.func52 rfl<|yx 2<|ysr<|yq 1<|yo (yC (qf1 a n cap l _ (hr.ch h.ch fun _ _ h=>h) hl hle hz hby (by omega)) ?_);rintro _ u ⟨o1,g,xs,k,rfl,hN,hO,hA⟩;refine⟨_,rfl,?_⟩;have h:=h.app0 hO hA;have J:byts xs:=by have:=qco hby;rw[hN]at this;exact this
 have E:=qdW (l:=l);have F:=qdC (l:=l);rw[hN]at E F;dsimp only at E F;refine yz 7<|ys<|ysr<|yq 3<|yw [18] (rE ((k:Nat):Int) 0) (fun K=>?_) fun K=>?_
 ·have af:=K;refine yz 13<|yct<|yx 2<|q9 (rS (yR2 [.pointer none,iX 0] .z ?_));exact⟨_,0,rfl,.inl ⟨qe2 hN (.inl (by omega)),rfl,rfl,h.ch⟩⟩
 have ag:=K;refine yq 8<|yw [23] (rE (xs.length:Int) 0) (fun L=>?_) fun L=>?_
 ·have ah:=L;refine yz 13<|yct<|yx 2<|q9 (rS (yR2 [.pointer none,iX 0] .z ?_));exact⟨_,0,rfl,.inl ⟨qe2 hN (.inr (.inl (iu (by omega)))),rfl,rfl,h.ch⟩⟩
 have X:=L;obtain⟨G,rfl⟩:=h.isO 0;obtain⟨B,q,rfl⟩:∃B q,xs=B::q:=by cases xs with|nil=>exact absurd (show(([]:List Int).length:Int)=0 from rfl) X|cons c q=>exact⟨c,q,rfl⟩
 have ai:(B::q).length=q.length+1:=rfl;have aj:(B::q).length<=g:=(h.own 0).2.1;have M:byts q:=fun y hy=>J y (iW _ hy);refine yp 13 [] (.i 0 ((B::q).length) (.l (o:=0) (qnx (h.brd 0) 0 (by omega)) .z))<|ye<|yc (rI ((B::q).getD 0 0) 83) (fun N=>?_) fun N=>?_
 ·have Y:=N;refine yx 2<|q9 (rS (yR2 [.pointer none,iX 0] .z ?_));exact⟨_,0,rfl,.inl ⟨qe2 hN (.inr (.inr Y)),rfl,rfl,h.ch⟩⟩
 have Z:=N;obtain rfl:B=83:=Z;refine yk<|ysr<|yp 2 [] (.j 1 ((83::q).length) .z)<|yo (yC (qfI G (some ⟨G,(if g=(1:Int).toNat then 0 else 0+(1:Int).toNat*1),none⟩) ((83::q).length-(1:Int).toNat) (g-(1:Int).toNat) q _ _ (qaI h.ch hT (fun _ h=>h.elim)) (im h7 h.ch.size) (qd9 (h.brd 0) (by omega)) (by omega) (by omega) (.inr ⟨_,rfl⟩) M (by omega) (h.own 0).lt rfl) ?_);rintro _ u ⟨vd,xd,rfl,S,a0⟩;refine⟨_,rfl,?_⟩;rcases a0 with⟨x,rfl,rfl⟩|⟨t,T,x,rfl,rfl,a1⟩
 ·have h:=h.same S;have x:=hdk.no _ M x;refine yz 8<|ys<|yx 2<|yct<|yx 2<|q9 (rS (yR2 [.pointer none,iX 0] .z ?_));exact⟨_,0,rfl,.inl ⟨by rw[qcY hN (by omega),show dec q=none from x],rfl,rfl,h.ch⟩⟩
 obtain⟨T,x,a2,a3⟩:=hdk.yes _ _ M x;have h:=h.newTm (a3 a1) S;refine yz 8<|ys<|yx 2<|ycf<|yk<|ysr<|yp 5 [] (.j 1 ((83::q).length) .z)<|yo (zN [.slice (some ⟨G,(if g=(1:Int).toNat then 0 else 0+(1:Int).toNat*1),none⟩) ((83::q).length-(1:Int).toNat) (g-(1:Int).toNat),nX,nX,pX t] 104 h fun u A h=>?_);refine yz 7<|qa ?_;obtain⟨h0,_⟩|⟨D,I,rfl⟩:=hz
 ·exfalso;omega
 have h:=h.own0 tEv 5;have h:=h.own0 qgo 2;have h:=h.ro0;have a4:=h.brd 0;have h:=h.toRo (o:=some G) 5 0 (some ⟨G,(if g=(1:Int).toNat then 0 else 0+(1:Int).toNat*1),none⟩) q (fun _=>⟨qd9 a4 (by omega),fun ad e=>by cases e;rfl⟩);have h:=Sep.scan (b:=A) (U:=T) (sa:=(some ⟨G,(if g=(1:Int).toNat then 0 else 0+(1:Int).toNat*1),none⟩)) (sn:=((83::q).length-(1:Int).toNat)) (sc:=(g-(1:Int).toNat)) (eo:=none) (ec:=0) (ko:=none) (kc:=0) (t:=t) (n:=0) (m:=0) (start:=q) (evs:=[]) (keys:=[]) (fun _=>(none,0,0)) (h.ord [2,3,4,5,1]).eqv rfl rfl rfl rfl ⟨by dsimp only;omega,(fun e=>by cases e),fun i hi=>absurd hi (j2 _),ip _,ip _⟩;refine qZ [0,5,8] (f':=[(0,.slice (some ⟨D,I,none⟩) n cap),(5,iX ((k:Nat):Int)),(8,pX A)])<|qy (σ:=Sc×Nat×Nat) (fun⟨s,d,fu⟩=>[(0,.slice (some ⟨D,I,none⟩) n cap),(5,iX (d:Int)),(8,pX A)]) (fun⟨s,d,fu⟩ u=>qc2 fu s (l.drop d) d=qc2 l.length ⟨⟨q,[],[]⟩,T⟩ (l.drop k) k/\d<=n/\n-d<fu/\OkS s.T/\(0<=qam s.r.evs/\qam s.r.evs<=4611686018427387904)/\(s.r.evs.length<=d/\s.r.keys.length<=d)/\Sep w (fun _=>False) u [qej A s]) (fun⟨s,d,fu⟩=>n-d) (⟨⟨q,[],[]⟩,T⟩,k,l.length) rfl ?_ ?_
 ·exact⟨rfl,by omega,by omega,a2,⟨Int.le_refl 0,(by decide:(0:Int)<=4611686018427387904)⟩,⟨ip _,ip _⟩,h.take 1⟩
 intro p u a5 al a6;obtain⟨s,d,fu⟩:=p;obtain⟨hF,a7,am,hO,V,an,h⟩:=a5;obtain⟨fu,rfl⟩:∃f,fu=f+1:=⟨fu-1,by omega⟩
 refine qa<|ysr<|yp 3 [] (.j (d:Int) (n) .z)<|yo (yC (qf1 (some ⟨D,(if cap=((d:Int):Int).toNat then I else I+((d:Int):Int).toNat*1),none⟩) (n-((d:Int):Int).toNat) (cap-((d:Int):Int).toNat) (l.drop d) _ (rd_at1 (hr.ch h.ch fun _ _ h=>h) hl hle a7) (by rw[iC];omega) (by omega) (.inr ⟨_,_,rfl⟩) (qcm hby d) (by omega)) ?_);rintro _ u ⟨ao,ap,O,P,rfl,H,a8,a9⟩;refine⟨_,rfl,?_⟩;have h:=h.app0 a8 a9;have J:byts O:=by have:=qco (qcm hby d);rw[H]at this;exact this
 have E:=qdW (l:=(l.drop d));have F:=qdC (l:=(l.drop d));rw[H]at E F;dsimp only at E F;rw[iC]at E F;refine yz 9<|ys<|ysr<|yq 3<|yw [52] (rE (P:Int) 0) (fun Q=>?_) fun Q=>?_
 ·have aq:=Q;refine yz 8<|yct<|yx 4<|q9 (rS (rB (qA (rB (yR2 [pX A,iX (d:Int)] .z ?_)))));refine⟨_,d,rfl,.inr ⟨A,s,?_,rfl,h.finN 0⟩⟩;rw[qcY hN (by omega),show dec q=some T from x];dsimp only;rw[<-hF,qaC H (.inl (by omega))]
 have ar:=Q;refine yq 5<|yo (yQ (h.takeS (gz0 h7) hT 0 1 hO V (by omega) J (by decide)) fun u h=>?_);refine yz 8<|yc (rN (rY (qaQ s O).isSome)) (fun R=>?_) fun R=>?_
 ·have aa:=R;have C:qaQ s O=none:=by simpa using aa
  rw[C]at h;refine yx 4<|q9 (rS (rB (qA (rB (yR2 [pX A,iX (d:Int)] .z ?_)))));refine⟨_,d,rfl,.inr ⟨A,s,?_,rfl,h.finN 0⟩⟩;rw[qcY hN (by omega),show dec q=some T from x];dsimp only;rw[<-hF,qaC H (.inr C)]
 have ab:=R;obtain⟨s2,C⟩:=jC.1 ab;rw[C]at h;have W:=qmt C hO V;have au:=take_len C;refine yk<|q7<|yp 4 [] (.q6 ((d:Int)+(P:Int)) .z)<|yE (nB (fun a ha=>a6 (s2,d+P,fu) _ ⟨by rw[<-hF,qj5 H (by omega) C,jO],by omega,by omega,W.1,W.2,by omega,h.take 1⟩ (by show n-(d+_)<n-d;omega) a (ha.kp [0,5,8])))
theorem qfK {dec:List Int->Option TS}(a:Option Addr)(n cap:Nat)(l:List Int)(w:World)(hT:LT w)(h7:gTop<=w.heap.size)(hr:Rd w a (u8s l))(hl:l.length=n)(hle:n<=cap)(hz:(n=0/\cap=0)\/ ∃b o,a=some ⟨b,o,none⟩)(hby:byts l)(hn:n<=9000000)(hdk:DecW dec):CP 21 [.slice a n cap].toArray w fun e w'=> ∃v k x,e= .returned (.tuple #[v,iX ((k:Nat):Int),iX x])/\((qd8 dec l=none/\v= .pointer none/\k=0/\x=1/\Ch (fun _=>False) w w')\/ ∃b s,qd8 dec l=some (s,k)/\v=pX b/\x=0/\NewA (qej b s) w w'):=by
 have h:=Sep.nil w;refine yA Tryz.func21 rfl<|yx 3<|ysr<|yq 1<|yo (yC (qqd a n cap l _ hT h7 hr hl hle hz hby hn hdk) ?_);rintro _ u ⟨vr,kr,rfl,d⟩;refine⟨_,rfl,?_⟩;rcases d with⟨c,rfl,rfl,f⟩|⟨b,s,c,rfl,g⟩
 ·have h:=h.same f;refine yz 7<|ys<|yx 2<|yct<|yx 3<|q9 (rS (yR2 [.pointer none,iX 0,iX 1] .z ?_));exact⟨_,0,1,rfl,.inl ⟨c,rfl,rfl,rfl,h.ch⟩⟩
 have h:=h.addN g;refine yz 7<|ys<|yx 2<|ycf<|yk<|yx 7<|q9 (yR2 [pX b,iX (kr:Int),iX 0] .z ?_);exact⟨_,kr,0,rfl,.inr ⟨b,s,c,rfl,rfl,h.finN 0⟩⟩
theorem qem {dec:List Int->Option TS}(a:Option Addr)(n cap:Nat)(l:List Int)(w:World)(hT:LT w)(h7:gTop<=w.heap.size)(hr:Rd w a (u8s l))(hl:l.length=n)(hle:n<=cap)(hz:(n=0/\cap=0)\/ ∃b o,a=some ⟨b,o,none⟩)(hby:byts l)(hn:n<=9000000)(hdk:DecW dec)(hB:∀s k,qd8 dec l=some (s,k)->RcB s.r/\byts (qbA s.r true)):CP 19 [.slice a n cap].toArray w fun e w'=> ∃v x,e= .returned (.tuple #[v,iX x])/\((qR dec l=none/\v= .pointer none/\x=1/\Ch (fun _=>False) w w')\/ ∃b s,qR dec l=some s/\v=pX b/\x=0/\NewA (qej b s) w w'):=by
 have h:=Sep.nil w;refine yA Tryz.func19 rfl<|yx 2<|ysr<|yq 1<|yo (yC (qfK a n cap l _ hT h7 hr hl hle hz hby hn hdk) ?_);rintro _ u ⟨vr,kr,xr,rfl,E⟩;refine⟨_,rfl,?_⟩;rcases E with⟨c,rfl,rfl,rfl,F⟩|⟨b,s,c,rfl,rfl,G⟩
 ·have h:=h.same F;refine yz 9<|ys<|ys<|zD [9,10,12] h fun u h=>yd (uL 0 16) [] .z<|yDe (nS ?_);refine yct<|yx 2<|q9 (rS (yR2 [.pointer none,iX 1] .z ?_));exact⟨_,1,rfl,.inl ⟨by unfold qR;rw[c],rfl,rfl,h.ch⟩⟩
 have h:=h.addN G;refine yz 9<|ys<|ys<|zD [9,10,12] h fun u h=>yd (uL 0 8) [] .z<|yv [20] (rL (kr:Int) (n:Int)) (fun f=>?_) fun f=>?_
 ·have S:=f;refine yd [8,11] [] .z<|qa5 9 12 (by kernel_rfl) (by decide) ?_ ?_
  ·obtain⟨FS,g,j⟩:=h.at (i:=0) (A:=qej b s) rfl;obtain⟨sa,sn,sc,eo,ec,ko,kc,kx,hR⟩:=qpY g j;have hW:=hB _ _ c;refine qH 9 _ (by kernel_rfl) rfl (yC (qdF b _ hR hW.1) ?_);rintro _ u ⟨y,m,B,rfl,H⟩;refine⟨_,rfl,?_⟩;have h:=h.join H;have C:(qbA s.r true).length=m:=by have:=h.len1 1;rwa[hZ]at this
   refine q8<|qa5 10 12 (by kernel_rfl) (by decide) ?_ ?_
   ·refine qH 10 _ (by kernel_rfl) rfl (qr (y.map at0) m B (qbA s.r true) (some 23) (by kernel_rfl) (h.ownRd' 1) C ?_);refine q8<|yK 12 (qr a n cap l (some 25) (by kernel_rfl) (hr.ch h.ch fun _ _ h=>h) hl ?_);refine q8<|yd (uL 13 3) [] .z<|yDe (nS ?_);refine yc (rN (rY (((qe (qbA s.r true))).toList==((qe l)).toList))) (fun p=>?_) fun p=>?_
    ·have I:=p;refine yx 2<|q9 (rS (yR2 [.pointer none,iX 1] .z ?_));have d:=qo hW.2 hby;exact⟨_,1,rfl,.inl ⟨by unfold qR;rw[c];exact if_pos ⟨by omega,iS (d.symm.trans (j0.2 (by simpa using I)))⟩,rfl,rfl,h.ch⟩⟩
    have J:=p;refine yk<|yx 3<|q9 (yR2 [pX b,iX 0] .z ?_);exact⟨_,0,rfl,.inr ⟨b,s,by unfold qR;rw[c];exact if_neg (fun hh=>hh.2 (iB ((qo hW.2 hby).symm.trans J))),rfl,rfl,h.finN 0⟩⟩
   refine qH 12 _ (by kernel_rfl) rfl (qr a n cap l (some 25) (by kernel_rfl) (hr.ch h.ch fun _ _ h=>h) hl ?_);refine q8<|yK 10 (qr (y.map at0) m B (qbA s.r true) (some 23) (by kernel_rfl) (h.ownRd' 1) C ?_);refine q8<|yd (uL 13 3) [] .z<|yDe (nS ?_);refine yc (rN (rY (((qe (qbA s.r true))).toList==((qe l)).toList))) (fun q=>?_) fun q=>?_
   ·have K:=q;refine yx 2<|q9 (rS (yR2 [.pointer none,iX 1] .z ?_));have d:=qo hW.2 hby;exact⟨_,1,rfl,.inl ⟨by unfold qR;rw[c];exact if_pos ⟨by omega,iS (d.symm.trans (j0.2 (by simpa using K)))⟩,rfl,rfl,h.ch⟩⟩
   have L:=q;refine yk<|yx 3<|q9 (yR2 [pX b,iX 0] .z ?_);exact⟨_,0,rfl,.inr ⟨b,s,by unfold qR;rw[c];exact if_neg (fun hh=>hh.2 (iB ((qo hW.2 hby).symm.trans L))),rfl,rfl,h.finN 0⟩⟩
  refine qH 12 _ (by kernel_rfl) rfl (qr a n cap l (some 25) (by kernel_rfl) (hr.ch h.ch fun _ _ h=>h) hl ?_);refine q8 ?_;obtain⟨FS,g,j⟩:=h.at (i:=0) (A:=qej b s) rfl;obtain⟨sa,sn,sc,eo,ec,ko,kc,kx,hR⟩:=qpY g j;have hW:=hB _ _ c;refine yK 9 (yC (qdF b _ hR hW.1) ?_);rintro _ u ⟨M,D,N,rfl,O⟩;refine⟨_,rfl,?_⟩;have h:=h.join O;have P:(qbA s.r true).length=D:=by have:=h.len1 1;rwa[hZ]at this
  refine q8<|yK 10 (qr (M.map at0) D N (qbA s.r true) (some 23) (by kernel_rfl) (h.ownRd' 1) P ?_);refine q8<|yd (uL 13 3) [] .z<|yDe (nS ?_);refine yc (rN (rY (((qe (qbA s.r true))).toList==((qe l)).toList))) (fun t=>?_) fun t=>?_
  ·have Q:=t;refine yx 2<|q9 (rS (yR2 [.pointer none,iX 1] .z ?_));have d:=qo hW.2 hby;exact⟨_,1,rfl,.inl ⟨by unfold qR;rw[c];exact if_pos ⟨by omega,iS (d.symm.trans (j0.2 (by simpa using Q)))⟩,rfl,rfl,h.ch⟩⟩
  have R:=t;refine yk<|yx 3<|q9 (yR2 [pX b,iX 0] .z ?_);exact⟨_,0,rfl,.inr ⟨b,s,by unfold qR;rw[c];exact if_neg (fun hh=>hh.2 (iB ((qo hW.2 hby).symm.trans R))),rfl,rfl,h.finN 0⟩⟩
 have T:=f;refine yd (uL 8 8) [] .z<|yDe (nS ?_);refine ycf<|yk<|yx 3<|q9 (yR2 [pX b,iX 0] .z ?_);exact⟨_,0,rfl,.inr ⟨b,s,by unfold qR;rw[c];exact if_neg (fun hh=>absurd hh.1 (by omega)),rfl,rfl,h.finN 0⟩⟩
abbrev tRec:TypeId:=34
abbrev qdH:TypeId:=69
def wrC (sb t:Nat):List Value:=[.pointer (some ⟨sb,0,none⟩),.string nmR,.pointer (some ⟨t,0,none⟩),.bool false]
def qqe (b sb:Nat)(s:Sc)(x:ScX):List Asn:=recL b s.r x (wrC sb x.t) qdH++[qau x.t s.T]
abbrev qfL (b sb:Nat)(s:Sc):Asn:=qjJ (qqe b sb s)
section
variable {w0 w w':World}{F0:Nat->Prop}{l m:List Asn}{A A':Asn}{b sb:Nat}
theorem Sep.addP {p:Prop}(h:Sep w0 F0 w l)(hp:p):Sep w0 F0 w (l++[qcX p]):=
 h.add (A:=qcX p) (G:=fun _=>False) hp (fun _ h=>h.elim) (Ch.refl _ _)
theorem Sep.wrt {A0:Asn}{sa:Option Addr}{sn sc ec kc n m t:Nat}{eo ko:Option Nat}{start:List Int}{evs:List Ev}{keys:List Ky}{ks:List Value}{L:List (Option Addr×List Int)}{U:TS}(kx:Nat->Option Addr×Nat×Nat)
  (h:Sep w0 F0 w [A0,qbX b [.slice sa sn sc,.slice (eo.map at0) n ec,.slice (ko.map at0) m kc,.pointer (some ⟨sb,0,none⟩),.string nmR,.pointer (some ⟨t,0,none⟩),.bool false] qdH,qaf tEv 5 eo n ec (qdi evs),qaf qgo 2 ko m kc ks,roA L,qau t U])
  (hn:evs.length=n) (hm:keys.length=m) (hks:ks=qay kx keys 0) (hL:L=roL ⟨sa,sn,sc,eo,ec,ko,kc,kx,t⟩ ⟨start,evs,keys⟩) (hok:ScOk ⟨sa,sn,sc,eo,ec,ko,kc,kx,t⟩ ⟨start,evs,keys⟩):Sep w0 F0 w [A0,qfL b sb ⟨⟨start,evs,keys⟩,U⟩]:=by
 subst hn hm hks hL;have h:=h.addP hok;exact Sep.pack (l:=[A0]) (L:=qqe b sb ⟨⟨start,evs,keys⟩,U⟩) ⟨sa,sn,sc,eo,ec,ko,kc,kx,t⟩ (h.ord [0,1,2,3,4,6,5]).eqv
theorem Sep.into (h:Sep w0 F0 w l)(i:Nat){F:Nat->Nat->Prop}(h1:∀(j:Nat) (A:Asn),l[j]? =some A->A.P w (F j))(h2:∀j k,j≠k-> ∀b,F j b-> ¬F k b)(h3:∀j b,F j b->(F0 b\/w0.heap.size<=b)/\b<w.heap.size)(hi:i<l.length)(h':Sep w (F i) w' (A'::m)):Sep w0 F0 w' (l.set i A'++m):=by
 obtain⟨G,n,f,g⟩:=h'.ex;have hz:=h'.ch.size;have t:=h.ch.size;have hG:∀q b,G q b->F i b\/w.heap.size<=b:=fun q b hb=>(g q b hb).1;refine Sep.of (h.ch.trans h'.ch fun b hb a=>(h3 i b a).1.elim id fun h=>by omega) (fun j b=>if j=i then G 0 b else if j<l.length then F j b else G (j-l.length+1) b) (fun j A e=>?_) (fun j k o b hb a=>?_) fun j b hb=>?_
 ·rcases iJ j l.length with hj|hj
  ·rw[iz (by rw[iU];exact hj)]at e
   by_cases hji:j=i
   ·subst hji
    rw[jr hj]at e;obtain rfl:=ia e;exact Asn.to (n 0 _ rfl) fun b=>by rw[if_pos rfl]
   ·rw[jp (fun h=>hji h.symm)]at e
    exact Asn.to (A.ch (h1 j A e) h'.ch fun b hb a=>h2 j i hji b hb a) fun b=>by rw[if_neg hji,if_pos hj]
  ·rw[iI (by rw[iU];exact hj),iU]at e
   exact Asn.to (n (j-l.length+1) A e) fun b=>by rw[if_neg (by omega),if_neg (by omega)]
 ·have d:∀p q,p≠i->p<l.length->F p b->G q b->False:=fun p q hp u hf hg=>by
   rcases hG q b hg with c|c
   ·exact h2 p i hp b hf c
   ·have:=(h3 p b hf).2;omega
  by_cases hj:j=i
  ·rw[if_pos hj]at hb
   by_cases hk:k=i
   ·exact o (hj.trans hk.symm)
   ·rw[if_neg hk]at a
    split at a
    ·exact d k 0 hk (by assumption) a hb
    ·exact f 0 _ (by omega) b hb a
  ·rw[if_neg hj]at hb
   by_cases hk:k=i
   ·rw[if_pos hk]at a
    split at hb
    ·exact d j 0 hj (by assumption) hb a
    ·exact f 0 _ (by omega) b a hb
   ·rw[if_neg hk]at a
    split at hb
    ·rename_i r
     split at a
     ·exact h2 j k o b hb a
     ·exact d j _ hj r hb a
    ·rename_i r
     split at a
     ·rename_i s;exact d k _ hk s a hb
     ·exact f _ _ (by omega) b hb a
 ·have hg:∀q,G q b->(F0 b\/w0.heap.size<=b)/\b<w'.heap.size:=fun q hq=>⟨(g q b hq).1.elim (fun c=>(h3 i b c).1) fun c=> .inr (by omega),(g q b hq).2⟩
  split at hb
  ·exact hg _ hb
  ·split at hb
   ·have:=h3 j b hb;exact⟨this.1,by omega⟩
   ·exact hg _ hb
theorem RcRd.fresh {a:Option Addr}{n c:Nat}{start:List Int}{tl:List Value}{T:TypeId}(hb:Blk w b (.slice a n c:: .slice none 0 0:: .slice none 0 0::tl) T)(hr:Rd w a (u8s start))(hl:start.length=n)(hz:a=none->c=0):RcRd w b a n c none 0 none 0 (fun _=>(none,0,0)) ⟨start,[],[]⟩:=
 ⟨hb.c 0 rfl,hb.c 1 rfl,hb.c 2 rfl,hr,hl,hz,Rd.nil _ _,Rd.nil _ _,⟨ip _,ip _⟩,fun i hi=>absurd hi (j2 _)⟩
theorem qqf (start:List Int):∀i,(qk ⟨start,[],[]⟩ i).out=qP 83 start/\(qk ⟨start,[],[]⟩ i).k=0
 |0=>⟨rfl,rfl⟩
 |i+1=>by
  obtain⟨h1,h2⟩:=qqf start i
  have e:qbB ⟨start,[],[]⟩ i (qk ⟨start,[],[]⟩ i)=qk ⟨start,[],[]⟩ i:=if_neg fun h=>absurd h.1 (j2 _)
  have e2:evP ⟨start,[],[]⟩ i (qk ⟨start,[],[]⟩ i)=qk ⟨start,[],[]⟩ i:=if_neg (j2 _)
  show(evP _ i (qbB _ i _)).out=_/\(evP _ i (qbB _ i _)).k=0
  rw[e,e2];exact⟨h1,h2⟩
theorem rcb0 {start:List Int}(hb:byts start)(hl:start.length<=1000000):RcB ⟨start,[],[]⟩:=
 ⟨⟨hb,hl⟩,fun j hj=>absurd hj (j2 _),fun j hj=>absurd hj (j2 _),fun i=>by rw[(qqf start i).1];have:=qah 83 start;omega⟩
theorem enc0 (start:List Int):qbA ⟨start,[],[]⟩ false=qP 83 start:=by
 unfold qbA;rw[if_neg jR];exact(qqf start _).1
theorem Sep.stAp0 {qu lf:Int}{o:Option Nat}{n c:Nat}{f:List Int}(h:Sep w0 F0 w l)(hg:Gz w0 F0)(i j:Nat)(hij:i≠j)(hi:l[i]? =some (qbt sb ⟨none,qu,false,lf,false⟩):=by rfl)(hj:l[j]? =some (qaf tU8 1 o n c (u8s f)):=by rfl)(hq:(n:Int)<=qu:=by omega)(hm:n<=1000000000:=by omega)(hqb:qu<=4611686018427387904:=by omega):
  CP 69 [.pointer (some ⟨sb,0,none⟩),.string nmR,.slice (o.map at0) n c].toArray w fun e w'=>e= .returned (.int .i64 0)/\Sep w0 F0 w' (l.set i (qbt sb ⟨some ⟨f,0⟩,qu,false,lf,false⟩)):=by
 have hO:=h.own j hj;obtain⟨F,a,d,g⟩:=h.ex;refine(append_0 sb qu lf (F i) (o.map at0) n c f w (a i _ hi) (h.gz hg (g i)) hO.rd hO.len1' ?_ ?_ hq hm hqb).mono fun e w' ⟨he,hA,hc⟩=>⟨he,h.upd hi F a d g hA hc⟩
 ·intro e
  cases o with
  |none=>exact(hO.2.2.2.1 rfl).2
  |some q=>cases e
 ·intro ad ha hF
  cases o with
  |none=>cases ha
  |some q=>
   obtain rfl:=ia ha;exact d i j hij q hF ((a j _ hj).2 q rfl)
theorem Sep.stAp1 {q:Fl}{qu lf:Int}{o:Option Nat}{n c:Nat}{f:List Int}(h:Sep w0 F0 w l)(hg:Gz w0 F0)(i j:Nat)(hij:i≠j)(hi:l[i]? =some (qbt sb ⟨some q,qu,false,lf,false⟩):=by rfl)(hj:l[j]? =some (qaf tU8 1 o n c (u8s f)):=by rfl)(hq:(q.data.length:Int)+(n:Int)<=qu:=by omega)(hz:q.data.length<=1000000000:=by omega)(hm:n<=1000000000:=by omega)(hqb:qu<=4611686018427387904:=by omega):
  CP 69 [.pointer (some ⟨sb,0,none⟩),.string nmR,.slice (o.map at0) n c].toArray w fun e w'=>e= .returned (.int .i64 0)/\Sep w0 F0 w' (l.set i (qbt sb ⟨some ⟨q.data++f,q.sure⟩,qu,false,lf,false⟩)):=by
 have hO:=h.own j hj;obtain⟨F,a,d,g⟩:=h.ex;refine(append_1 sb q qu lf (F i) (o.map at0) n c f w (a i _ hi) (h.gz hg (g i)) hO.rd hO.len1' ?_ ?_ hq hz hm hqb).mono fun e w' ⟨he,hA,hc⟩=>⟨he,h.upd hi F a d g hA hc⟩
 ·intro e
  cases o with
  |none=>exact(hO.2.2.2.1 rfl).2
  |some q=>cases e
 ·intro ad ha hF
  cases o with
  |none=>cases ha
  |some q=>
   obtain rfl:=ia ha;exact d i j hij q hF ((a j _ hj).2 q rfl)
def addS (s:Sc)(e:Ev):Sc:=⟨⟨s.r.start,s.r.evs++[e],if(s.r.evs.length+1)% 8=0 then s.r.keys++[⟨s.r.evs.length+1,qL (qa8 s.T e)⟩]else s.r.keys⟩,qa8 s.T e⟩
def addB (s:Sc)(e:Ev):List Int:=if(s.r.evs.length+1)% 8=0 then qP 69 (evI (qam s.r.evs) e)++qP 75 (qS ⟨s.r.evs.length+1,qL (qa8 s.T e)⟩)else qP 69 (evI (qam s.r.evs) e)
abbrev logA (b sb:Nat)(q:Fl)(qu lf:Int)(s:Sc):Asn:=qjJ fun _:Unit=>[qbt sb ⟨some q,qu,false,lf,false⟩,qfL b sb s]
end
theorem stRd0 {sb:Nat}{qu lf:Int}{ar dn:Bool}{F:Nat->Prop}{w:World}(h:(qbt sb ⟨none,qu,ar,lf,dn⟩).P w F)(hF:∀k,F k->k<w.heap.size):∃x,StRd w sb ⟨none,qu,ar,lf,dn⟩ x:=by
 obtain⟨x,h⟩:=Sep.startP h hF;exact⟨x,h.b 0,h.ob 1⟩
theorem lnew_any (t:Nat)(T:TS)(FT:Nat->Prop)(w:World)(hA0:(qau t T).P w FT)(hOk:OkS T):CP 23 [pX t].toArray w fun e w'=> ∃b o n c,e= .returned (pX b)/\Sep w (fun _=>False) w' [qaf tU8 1 o n c (u8s (qL T)),qbX b [.slice (o.map at0) n c,nX,nX] tRec]:=by
 have g:∀b,FT b-> ¬(fun _:Nat=>False) b:=fun _ _ h=>h;have h:=Sep.nil w;refine yA Tryz.func23 rfl<|yx 1<|ysr<|yq 1<|yo (yC (qi7 (tmA.at ((qau t T).ch hA0 h.ch g)) hOk.dec.enc) ?_);rintro _ u ⟨d,a,f,rfl,i,_,j,k⟩;refine⟨_,rfl,?_⟩;have h:=h.fresh i j k;have m:(qL T).length=a:=by have:=h.len1 0;rwa[hZ]at this
 refine yq 3<|yo (zN [.slice (d.map at0) a f,nX,nX] 34 h fun u l h=>?_);refine yz 5<|q9 (yR1 (pX l) ?_);exact⟨_,d,a,f,rfl,(h.ord [0,1]).eqv⟩
theorem qnJ (sb t:Nat)(T:TS)(qu lf:Int)(FS FT:Nat->Prop)(w:World)(hS:(qbt sb ⟨none,qu,false,lf,false⟩).P w FS)(hg:Gz w FS)(hA0:(qau t T).P w FT)(hdis:∀b,FT b-> ¬FS b)(hOk:OkS T)(hq:(((qP 83 (qL T)).length:Nat):Int)<=qu)(hqb:qu<=4611686018427387904):CP 32 [pX sb,.string nmR,pX t].toArray w fun e w'=> ∃b,e= .returned (.tuple #[pX b,iX 0])/\Sep w FS w' [qbt sb ⟨some ⟨qP 83 (qL T),0⟩,qu,false,lf,false⟩,qfL b sb ⟨⟨qL T,[],[]⟩,T⟩]:=by
 have h:=Sep.one hS fun b hb=>(hg.lo b hb).2;have F:=qc1 hOk.dec;have o:=qcc hOk.dec;refine yA Tryz.func32 rfl<|yx 2<|ys<|ysr<|yq 2 ?_;obtain⟨FX,p,r⟩:=h.at (i:=0) (A:=qbt sb ⟨none,qu,false,lf,false⟩) rfl;obtain⟨x,s⟩:=stRd0 p r;refine yo (yQ (h.look (sread_0 sb x qu false lf false _ s rfl)) fun u h=>?_);refine yz 8<|yx 2<|ycf<|yk<|ys<|zDC [1,9] [0] h fun u h=>ydF [0,4,5,6] [] h.on (fun u h=> .z)<|yK 1 (yC (lnew_any t T FT _ ((qau t T).ch hA0 h.ch hdis) hOk) ?_);rintro _ u ⟨G,c,d,f,rfl,v⟩;refine⟨_,rfl,?_⟩;have h:=h.join v;have g:(qL T).length=d:=by have:=h.len1 1;rwa[hZ]at this
 refine zK (is:=[0,1,2]) h<|ydF [2,3] [] h.on (fun u h=>(.a (h.cs 2 0 3) .z))<|yH 7 (yC (qms (tmA.at ((qau t T).ch hA0 h.ch hdis)) hOk.dec.enc) ?_);rintro _ u ⟨j,rfl,y,B⟩;refine⟨_,rfl,?_⟩;have h:=h.newTm y B;refine zHa h<|ydF [8] [] h.on (fun u h=> .z)<|yK 9 (zN [.slice (c.map at0) d f,nX,nX,pX sb,.string nmR,pX j,xF] 69 h fun u k h=>?_);refine q8<|yd [10] [] .z<|yDe (nS ?_);refine ys<|ysr<|yq 5<|yo (yC (qf8 k _ (RcRd.fresh (h.b 4) (h.ownRd' 1) g (by intro e;cases hq:c with|none=>exact((h.own 1).2.2.2.1 hq).2|some q=>rw[hq]at e;cases e)) (rcb0 o (by omega))) ?_);rintro _ u ⟨H,C,I,rfl,l⟩;refine⟨_,rfl,?_⟩;rw[enc0]at l;have h:=h.join l;have D:(qP 83 (qL T)).length=C:=by have:=h.len1 5;rwa[hZ]at this
 have J:=qah 83 (qL T);have K:=D;refine yo (yQ (h.stAp0 hg 0 5 (by decide)) fun u h=>?_);refine yz 8<|yx 2<|ycf<|yk<|yx 3<|q9 (yR2 [pX k,iX 0] .z ?_);have E:=(show c.map at0=none->f=0 from(by intro e;cases hq:c with|none=>exact((h.own 1).2.2.2.1 hq).2|some q=>rw[hq]at e;cases e))
 have h:=h.own0 tEv 5;have h:=h.own0 qgo 2;have h:=h.ro0;have h:=h.toRo 8 1 (c.map at0) (qL T) fun hO=>⟨hO.rd,fun ad e=>by cases hq:c with|none=>rw[hq]at e;cases e|some q=>rw[hq]at e;obtain rfl:=zi e;rfl⟩
 exact⟨_,rfl,Sep.wrt (sa:=c.map at0) (sn:=d) (sc:=f) (eo:=none) (ec:=0) (ko:=none) (kc:=0) (t:=j) (n:=0) (m:=0) (start:=qL T) (evs:=[]) (keys:=[]) (fun _=>(none,0,0)) (h.ord [0,4,6,7,8,3]).eqv rfl rfl rfl rfl ⟨g,E,fun i hi=>absurd hi (j2 _),ip _,ip _⟩⟩
theorem qqg {t k W H:Int}{d:ByteArray}(w:World)(hB:evB ⟨t,k,d,W,H⟩=true):CP 74 [.agg #[iX t,iX k,.string d,iX W,iX H]].toArray w (RQ (.bool true) w):=by
 have:=qek t k W H d w;rw[hB]at this;exact this
theorem add_any (b sb:Nat)(r:Rc)(U:TS)(da:List Int)(su qu lf:Int)(e:Ev)(F:Nat->Prop)(w:World)(hA:(logA b sb ⟨da,su⟩ qu lf ⟨r,U⟩).P w F)(hg:Gz w F)(hT:LT w)(hO:OkS U)(hB:evB e=true)(hl0:0<=qam r.evs)(hl1:qam r.evs<=e.time)(hen:r.evs.length+1<=10000000/\r.keys.length+1<=10000000)(hda:da.length<=900000000)(hq:(da.length:Int)+(((addB ⟨r,U⟩ e).length:Nat):Int)<=qu)(hqb:qu<=4611686018427387904):CP 37 [pX b,.agg e.vals.toArray].toArray w fun x w'=>x= .returned (iX 0)/\qkj (logA b sb ⟨da,su⟩ qu lf ⟨r,U⟩) (logA b sb ⟨da++addB ⟨r,U⟩ e,su⟩ qu lf (addS ⟨r,U⟩ e)) F w w':=by
 obtain⟨_,h⟩:=Sep.startA hA hg;obtain⟨x,h⟩:=h.unpack 1;obtain⟨sa,sn,sc,eo,ec,ko,kc,kx,t⟩:=x;have h:=(h.ord [2,3,4,5,6,7,0]).eqv (m:=[qbX b [.slice sa sn sc,.slice (eo.map at0) r.evs.length ec,.slice (ko.map at0) r.keys.length kc,pX sb,.string nmR,pX t,xF] qdH,qaf tEv 5 eo r.evs.length ec (qdi r.evs),qaf qgo 2 ko r.keys.length kc (qay kx r.keys 0),roA (roL ⟨sa,sn,sc,eo,ec,ko,kc,kx,t⟩ r),qcX (ScOk ⟨sa,sn,sc,eo,ec,ko,kc,kx,t⟩ r),qau t U,qbt sb ⟨some ⟨da,su⟩,qu,false,lf,false⟩]);have s:=h.pure 4;have a3:e.data.size<=1000000:=by have:=(qg1 hB).1.2;omega
 have B:=hO.ap hB;have am:=qc1 B.dec;have a4:=qcc B.dec;have an:=qeg (fr:=qam r.evs) hB;have a5:=qdX hB hl0;have a6:=qe0 ⟨r.evs.length+1,qL (qa8 U e)⟩;dsimp only at a6;refine yA Tryz.func37 rfl<|ysr<|yo (zN [iX e.time,iX e.kind,.string e.data,iX e.w,iX e.h] 66 h fun u ao h=>?_);refine yz 2<|ys<|qa<|ys<|zDC [1] [0,1,2,3,4,5,6,7] h fun u h=>ydF [0] [] h.on (fun u h=>(.a (h.cs 7 0 5) .z))<|yK 1 (yQ (h.look (qqg _ hB)) fun u h=>?_);refine zK (is:=[0,1,2,3,4,5,6,7]) h<|ydF (uL 2 7) [] h.on (fun u h=>(.l (h.c 7 0) .z))<|yH 9 (yQ (h.look (qf6 b _ (h.rc (x:=⟨sa,sn,sc,eo,ec,ko,kc,kx,t⟩) (r:=r) (tl:=wrC sb t) (T:=qdH)))) fun u h=>?_);refine zH h<|ydF (uL 10 3) [] h.on (fun u h=> .z)<|yDe (nS ?_);refine yc (rL e.time (qam r.evs)) (fun C=>?_) fun C=>?_
 ·have a7:=C;exact absurd a7 (by omega)
 have aq:=C;refine ysr<|yp 5 [] (.l (h.c 0 6) .z)<|ye<|ycf<|qm (nB (nS ?_));refine ysr<|yp 4 [] (.l (h.c 0 5) .z) ?_;obtain⟨FT,a8,_⟩:=h.at (i:=5) (A:=qau t U) rfl;refine yo (yC (qms (tmA.at a8) hO.dec.enc) ?_);rintro _ u ⟨y,rfl,a9,aa⟩;refine⟨_,rfl,?_⟩;have h:=h.newTm a9 aa;refine yz 6<|ysr<|yp 2 [] (.a (h.cs 7 0 5) .z)<|yo (yQ (h.app hg hT 8 e hO.fine a3) fun u h=>?_);refine ye<|ys<|zDC [5,6] [0,1,2,3,4,5,6,7,8] h fun u h=>ydF [0,1,2,4] [] h.on (fun u h=>(.a (h.cs 7 0 5) .z))<|yH 3 (yQ (h.look (qf6 b _ (h.rc (x:=⟨sa,sn,sc,eo,ec,ko,kc,kx,t⟩) (r:=r) (tl:=wrC sb t) (T:=qdH)))) fun u h=>?_);refine zH h<|yK 5 (yC (qf5 none 0 0 [] (qam r.evs) _ _ _ _ _ _ (Own.nil _ _ _) hB ⟨hl0,hl1⟩ (by omega)) ?_);rintro _ u ⟨H,I,ab,rfl,J,ar,ac⟩;refine⟨_,rfl,?_⟩;rw[iO]at J;have h:=h.app0 J ac;have K:(evI (qam r.evs) e).length=I:=by have:=h.len1 9;rwa[hZ]at this
 refine q8 ?_;have au:=qah 69 (evI (qam r.evs) e);refine yK 6 (yC (qba none 0 0 [] 69 (H.map at0) I ab (evI (qam r.evs) e) _ (Own.nil _ _ _) (h.ownRd' 9) K (by intro e;cases hq:H with|none=>exact((h.own 9).2.2.2.1 hq).2|some q=>rw[hq]at e;cases e) a5 (by decide) (fun _ _ e=>by cases e) (by have:=K;omega)) ?_);rintro _ u ⟨ae,D,af,rfl,M,av,ag⟩;refine⟨_,rfl,?_⟩;rw[iO]at M;have h:=h.app0 M ag;have N:(qP 69 (evI (qam r.evs) e)).length=D:=by have:=h.len1 10;rwa[hZ]at this
 refine q8<|yd [7] [] .z<|yDe (nS ?_);refine ysr<|yp 6 [] (.l (h.c 0 2) .z)<|ye<|ys<|ysr<|yp 8 [] (.l (h.c 0 1) (.q6 ((r.evs.length:Int)+1) .z))<|ye<|ysr ?_;refine yp 3 [] (.p (q:=0<=(((r.evs.length:Int)+1):Int)/\0<(8:Int)) (by constructor<;>omega) .z) ?_;refine ye<|yc (rE (((r.evs.length:Int)+1)% 8) 0) (fun E=>?_) fun E=>?_
 ·have aw:=E;refine ysr<|yq 2<|yo (yC (h.encT 8 B.dec.enc) ?_);rintro _ u ⟨d,f,g,rfl,h⟩;refine⟨_,rfl,?_⟩;have G:(qL (qa8 U e)).length=f:=by have:=h.len1 11;rwa[hZ]at this
  have O:d.map at0=none->g=0:=(by intro e;cases hq:d with|none=>exact((h.own 11).2.2.2.1 hq).2|some q=>rw[hq]at e;cases e)
  refine yq 4<|yo (zN [iX 0,nX] 51 h fun u ax h=>?_);refine yo (zs h 12 fun u h=>?_);refine ye<|ysr<|yp 2 [] (.a (h.cs 12 0 2) .z)<|yo (yC (qcZ ⟨r.evs.length+1,qL (qa8 U e)⟩ (d.map at0) f g _ (h.ownRd' 11) G O (by have:=G;omega) (by dsimp only;omega)) ?_);rintro _ u ⟨Q,R,ah,rfl,ai⟩;refine⟨_,rfl,?_⟩;have h:=h.join ai;have S:(qS ⟨r.evs.length+1,qL (qa8 U e)⟩).length=R:=by have:=h.len1 13;rwa[hZ]at this
  have ay:=qah 75 (qS ⟨r.evs.length+1,qL (qa8 U e)⟩);refine yo (yC (qba ae D af (qP 69 (evI (qam r.evs) e)) 75 (Q.map at0) R ah (qS ⟨r.evs.length+1,qL (qa8 U e)⟩) _ (h.own 10) (h.ownRd' 13) S (by intro e;cases hq:Q with|none=>exact((h.own 13).2.2.2.1 hq).2|some q=>rw[hq]at e;cases e) (qj (qq (by dsimp only;omega)) a4) (by decide) (h.neA 10 13) (by have:=S;have:=N;omega)) ?_);rintro _ u ⟨az,V,aA,rfl,aj,aB,ak⟩;refine⟨_,rfl,?_⟩;have h:=h.appI 10 aj ak;have al:(qP 69 (evI (qam r.evs) e)++qP 75 (qS ⟨r.evs.length+1,qL (qa8 U e)⟩)).length=V:=by have:=h.len1 10;rwa[hZ]at this
  refine yz 5<|q7<|yp 2 [] (.a (h.cs 12 0 2) .z)<|yo (zB [iX ((r.evs.length:Int)+1),.slice (d.map at0) f g] 51 1 h fun u aC h=>?_);refine yo (zA 2 32 1 1 (r.keys.length+1) (qay (kxS kx r.keys.length (d.map at0,f,g)) (r.keys++[⟨r.evs.length+1,qL (qa8 U e)⟩]) 0) h (Rd.all (h.b 14)) rfl (hz:=qfG (k:=⟨r.evs.length+1,qL (qa8 U e)⟩) (v:=(d.map at0,f,g))) fun u W X h aD=>?_);refine yz 5<|ys<|ys<|zD [9] h fun u h=>yd (uL 0 9) [] (.l (h.c 0 3) (.l (h.c 0 4) .z)) ?_;have Y:=al;rw[hJ]at Y;have j:(r.evs.length+1)% 8=0:=by omega
  have o:addB ⟨r,U⟩ e=qP 69 (evI (qam r.evs) e)++qP 75 (qS ⟨r.evs.length+1,qL (qa8 U e)⟩):=if_pos j;rw[o,hJ]at hq;refine yK 9 (yQ (h.stAp1 hg 6 10 (by decide) (hq:=(show(da.length:Int)+(V:Int)<=qu by omega)) (hz:=(show da.length<=1000000000 by omega))) fun u h=>?_);refine q8<|yd [10] [] .z<|yDe (nS ?_);refine ycf<|yk<|ys<|zDC [11,15,19,23] [0,1,2,3,4,5,6,7,8,9,10,11,12,13,14] h fun u h=>ydF [0,1,2,3,4,5,6,7,8,9,12] [] h.on (fun u h=>(.l (h.c 0 1) (.a (h.cs 7 0 5) .z)))<|yH 10 (zB [iX e.time,iX e.kind,.string e.data,iX e.w,iX e.h] 66 1 h fun u aE h=>?_);refine zHa h<|yK 11 (zA 1 48 1 1 (r.evs.length+1) (qdi (r.evs++[e])) h (Rd.all (h.b 15)) rfl (hz:=(qj2 _ _).symm) fun u Z a0 h aF=>?_);refine q8<|yd [13,14] [] .z<|yK 15 (zs h 0 fun u h=>?_);refine q8<|yd (uL 16 3) [] .z<|yK 19 (zs h 0 fun u h=>?_);refine q8<|yd (uL 20 3) [] .z<|yK 23 (zs h 0 fun u h=>?_);refine q8<|yDe (nS ?_);refine yx 1<|q9 (yR1 (iX 0) ?_);have h:=h.nrm 0 [.slice sa sn sc,.slice (Z.map at0) (r.evs.length+1) a0,.slice (W.map at0) (r.keys.length+1) X,pX sb,.string nmR,pX y,xF];have h:=h.nrm 12 [iX ((r.evs.length:Int)+1),.slice (d.map at0) f g];rw[o,show addS ⟨r,U⟩ e=⟨⟨r.start,r.evs++[e],r.keys++[⟨r.evs.length+1,qL (qa8 U e)⟩]⟩,qa8 U e⟩ by unfold addS;rw[if_pos j]]
  have h:=h.toRo 3 11 (d.map at0) (qL (qa8 U e)) fun hO=>⟨hO.rd,fun ad e=>by cases hq:d with|none=>rw[hq]at e;cases e|some q=>rw[hq]at e;obtain rfl:=zi e;rfl⟩
  exact⟨rfl,(Sep.pack (l:=[]) (L:=fun _:Unit=>[qbt sb ⟨some ⟨da++_,su⟩,qu,false,lf,false⟩,qfL b sb _]) () (Sep.wrt (sa:=sa) (sn:=sn) (sc:=sc) (eo:=Z) (ec:=a0) (ko:=W) (kc:=X) (t:=y) (n:=r.evs.length+1) (m:=r.keys.length+1) (start:=r.start) (evs:=r.evs++[e]) (keys:=r.keys++[⟨r.evs.length+1,qL (qa8 U e)⟩]) (kxS kx r.keys.length (d.map at0,f,g)) (h.ord [6,0,1,2,3,8]).eqv (by simp) (by simp) rfl (qj4 (x:=⟨sa,sn,sc,eo,ec,ko,kc,kx,t⟩) (r:=r) (k:=⟨r.evs.length+1,qL (qa8 U e)⟩) (v:=(d.map at0,f,g)) rfl rfl rfl rfl) (qhc s ⟨rfl,rfl,rfl⟩ rfl rfl rfl G O ⟨by rw[hJ];exact hen.1,by rw[hJ];exact hen.2⟩))).finS hg 0⟩
 have aG:=E;refine yk<|ys<|ys<|zD [9] h fun u h=>yd (uL 0 9) [] (.l (h.c 0 3) (.l (h.c 0 4) .z)) ?_;have Y:=N;have j:¬(r.evs.length+1)% 8=0:=by omega
 have o:addB ⟨r,U⟩ e=qP 69 (evI (qam r.evs) e):=if_neg j;rw[o]at hq;refine yK 9 (yQ (h.stAp1 hg 6 10 (by decide) (hq:=(show(da.length:Int)+(D:Int)<=qu by omega)) (hz:=(show da.length<=1000000000 by omega))) fun u h=>?_);refine q8<|yd [10] [] .z<|yDe (nS ?_);refine ycf<|yk<|ys<|zDC [11,15,19,23] [0,1,2,3,4,5,6,7,8,9,10] h fun u h=>ydF [0,1,2,3,4,5,6,7,8,9,12] [] h.on (fun u h=>(.l (h.c 0 1) (.a (h.cs 7 0 5) .z)))<|yH 10 (zB [iX e.time,iX e.kind,.string e.data,iX e.w,iX e.h] 66 1 h fun u aH h=>?_);refine zHa h<|yK 11 (zA 1 48 1 1 (r.evs.length+1) (qdi (r.evs++[e])) h (Rd.all (h.b 11)) rfl (hz:=(qj2 _ _).symm) fun u a1 a2 h aI=>?_);refine q8<|yd [13,14] [] .z<|yK 15 (zs h 0 fun u h=>?_);refine q8<|yd (uL 16 3) [] .z<|yK 19 (zs h 0 fun u h=>?_);refine q8<|yd (uL 20 3) [] .z<|yK 23 (zs h 0 fun u h=>?_);refine q8<|yDe (nS ?_);refine yx 1<|q9 (yR1 (iX 0) ?_);have h:=h.nrm 0 [.slice sa sn sc,.slice (a1.map at0) (r.evs.length+1) a2,.slice (ko.map at0) r.keys.length kc,pX sb,.string nmR,pX y,xF];rw[o,show addS ⟨r,U⟩ e=⟨⟨r.start,r.evs++[e],r.keys⟩,qa8 U e⟩ by unfold addS;rw[if_neg j]];exact⟨rfl,(Sep.pack (l:=[]) (L:=fun _:Unit=>[qbt sb ⟨some ⟨da++_,su⟩,qu,false,lf,false⟩,qfL b sb _]) () (Sep.wrt (sa:=sa) (sn:=sn) (sc:=sc) (eo:=a1) (ec:=a2) (ko:=ko) (kc:=kc) (t:=y) (n:=r.evs.length+1) (m:=r.keys.length) (start:=r.start) (evs:=r.evs++[e]) (keys:=r.keys) kx (h.ord [6,0,1,2,3,8]).eqv (by simp) rfl rfl rfl ⟨s.sl,s.sz,s.kl,by rw[hJ];exact hen.1,by have:=hen.2;dsimp only;omega⟩)).finS hg 0⟩
theorem qqh {x m:Int}{k:Nat}(hm:(BitVec.ofInt 64 m).toNat=k)(hk:k<=9223372036854775807):0<=qf .and .i64 x m/\qf .and .i64 x m<=k:=by
 have h:(BitVec.ofInt 64 x&&&BitVec.ofInt 64 m).toNat<=k:=by
  rw[BitVec.toNat_and,hm];exact Nat.and_le_right
 unfold qf;show 0<=IntKind.wrap .i64 (((BitVec.ofInt 64 x&&&BitVec.ofInt 64 m).toNat:Nat):Int)/\IntKind.wrap .i64 (((BitVec.ofInt 64 x&&&BitVec.ofInt 64 m).toNat:Nat):Int)<=k;generalize (BitVec.ofInt 64 x&&&BitVec.ofInt 64 m).toNat=n at h;rw[qbl (k:= .i64) (n:=(n:Int)) (show-9223372036854775808<=(n:Int)/\(n:Int)<=9223372036854775807 by omega)];omega
theorem andT (x:Int):0<=qf .and .i64 x 65535/\qf .and .i64 x 65535<=65535:=qqh (by decide) (by decide)
theorem andK (x:Int):0<=qf .and .i64 x 3/\qf .and .i64 x 3<=3:=qqh (by decide) (by decide)
theorem andS (x:Int):0<=qf .and .i64 x 127/\qf .and .i64 x 127<=127:=qqh (by decide) (by decide)
def cut4 (s:ByteArray):ByteArray:=if 400<(s.size:Int)then s.extract 0 400 else s
def qqi (t:Int)(e:Ev):Ev:=if qf .and .i64 e.kind 3=2 then⟨t+qf .and .i64 e.time 65535,qf .and .i64 e.kind 3,E0,qf .and .i64 e.w 127+1,qf .and .i64 e.h 127+1⟩else⟨t+qf .and .i64 e.time 65535,qf .and .i64 e.kind 3,cut4 e.data,0,0⟩
def qkA (l:List Ev):Nat->List Ev
 |0=>[]
 |k+1=>qkA l k++[qqi (qam (qkA l k)) (ge l k)]
abbrev tameL (l:List Ev):List Ev:=qkA l l.length
theorem qi8 (l:List Ev)(e:Ev):qam (l++[e])=e.time:=by
 unfold qam qY;rw[if_neg (by simp),hJ,j1,k8,qfD]
theorem qkB (l:List Ev):∀k,(qkA l k).length=k
 |0=>rfl
 |k+1=>by rw[qkA,hJ,qkB l k];rfl
theorem qi9 (t:Int)(e:Ev):(qqi t e).time=t+qf .and .i64 e.time 65535:=by unfold qqi;split<;>rfl
theorem qqj (s:ByteArray):(cut4 s).size<=400:=by
 unfold cut4;split
 ·rw[k9];omega
 ·omega
theorem tame1_ok {t:Int}{e:Ev}(h0:0<=t)(h1:t<=1000000000000):evB (qqi t e)=true:=by
 have hT:=andT e.time;have hK:=andK e.kind;have hW:=andS e.w;have hH:=andS e.h;have hc:=qqj e.data;unfold qqi;split
 ·rename_i hk
  unfold evB;dsimp only;rw[if_neg (by have:E0.size=0:=rfl;omega),if_pos hk];exact j4 ⟨rfl,by omega,by omega,by omega,by omega⟩
 ·rename_i hk
  unfold evB;dsimp only;rw[if_neg (by omega),if_neg hk,if_pos (by omega)];exact j4 ⟨rfl,rfl⟩
structure EvsOk (l:List Ev):Prop where
 evb:∀i,i<l.length->evB (ge l i)=true
 tm:∀i,i<l.length->0<=qY l i/\qY l i<=(ge l i).time
theorem qfa {l:List Ev}(m:List Ev){i:Nat}(h:i<=l.length):qY (l++m) i=qY l i:=by
 unfold qY;split
 ·rfl
 ·rw[qh8 m (by omega)]
theorem EvsOk.nil:EvsOk []:=⟨fun i h=>absurd h (j2 i),fun i h=>absurd h (j2 i)⟩
theorem EvsOk.last {l:List Ev}(h:EvsOk l):0<=qam l/\qam l<=4611686018427387904:=by
 unfold qam qY;split
 ·decide
 ·have:=(qg1 (h.evb (l.length-1) (by omega))).1.1
  omega
theorem EvsOk.snoc {l:List Ev}{e:Ev}(h:EvsOk l)(he:evB e=true)(hl:qam l<=e.time):EvsOk (l++[e]):=by
 have a:=h.last;refine⟨fun i hi=>?_,fun i hi=>?_⟩
 ·rw[hJ,j1]at hi
  rcases iJ i l.length with hl|hl
  ·rw[qh8 _ hl];exact h.evb i hl
  ·obtain rfl:i=l.length:=by omega
   rw[qfD];exact he
 ·rw[hJ,j1]at hi
  rw[qfa _ (by omega)];rcases iJ i l.length with hl|hl
  ·rw[qh8 _ hl];exact h.tm i hl
  ·obtain rfl:i=l.length:=by omega
   rw[qfD];exact⟨a.1,by assumption⟩
theorem EvsOk.take {l:List Ev}(h:EvsOk l)(n:Nat):EvsOk (l.take n):=by
 have a:l=l.take n++l.drop n:=(j3 n l).symm;refine⟨fun i hi=>?_,fun i hi=>?_⟩
 ·have hi':i<l.length:=by rw[io]at hi;omega
  have:=h.evb i hi';rw[a,qh8 _ hi]at this;exact this
 ·have hi':i<l.length:=by rw[io]at hi;omega
  have:=h.tm i hi';rw[a,qh8 _ hi,qfa _ (by omega)]at this;exact this
theorem qmu (l:List Ev):∀k,k<=1000->EvsOk (qkA l k)/\qam (qkA l k)<=65535*k
 |0,_=>⟨.nil,by show qY [] 0<=_;simp[qY]⟩
 |k+1,hk=>by
  obtain⟨h1,h2⟩:=qmu l k (by omega)
  have h0:=h1.last
  have hT:=andT (ge l k).time
  refine⟨h1.snoc (tame1_ok h0.1 (by omega)) (by rw[qi9];omega),?_⟩
  rw[qkA,qi8,qi9]
  omega
def qda (T0:TS)(l:List Ev)(n:Nat):List Ky:=(List.range (n/8)).map fun j=>⟨8*(j+1),qL (qb6 T0 l (8*(j+1)))⟩
def qia (T0:TS)(l:List Ev)(k:Nat):Rc:=⟨qL T0,l.take k,qda T0 l k⟩
theorem add_scB (T0:TS)(l:List Ev){k:Nat}(h:k<l.length):addS ⟨qia T0 l k,qb6 T0 l k⟩ (ge l k)=⟨qia T0 l (k+1),qb6 T0 l (k+1)⟩:=by
 have hl:(l.take k).length=k:=by rw[io];omega
 unfold addS qia;dsimp only;rw[hl,qpV h];congr 2;unfold qda;split
 ·rename_i a
  rw[show(k+1)/8=k/8+1 by omega,List.range_succ,iK];simp only[k6,List.map_nil];rw[show 8*(k/8+1)=k+1 by omega];rfl
 ·rw[show(k+1)/8=k/8 by omega]
theorem qd1 (T0:TS)(l:List Ev)(k:Nat):(qda T0 l k).length=k/8:=by simp[qda]
theorem qfb (T0:TS)(l:List Ev){k j:Nat}(h:j<k/8):gky (qda T0 l k) j=⟨8*(j+1),qL (qb6 T0 l (8*(j+1)))⟩:=by
 unfold gky qda;rw[iq,iM,List.getElem?_range h];rfl
theorem OkS.fold {T0:TS}(h:OkS T0){l:List Ev}(hl:EvsOk l):∀k,k<=l.length->OkS (qb6 T0 l k)
 |0,_=>h
 |k+1,hk=>(OkS.fold h hl k (by omega)).ap (hl.evb k (by omega))
theorem qnK (T:TS)(l:List Ev){k n:Nat}(h:k<=n)(hn:n<=l.length):qb6 T (l.take n) k=qb6 T l k:=by
 have:=qf3 T (l.take n) (l.drop n) k (by rw[io];omega);rw[j3]at this;exact this.symm
theorem recB_ok {T0:TS}{l:List Ev}(hl:EvsOk l){k:Nat}(hk:k<=l.length):RcOk T0 (qia T0 l k):=by
 have hn:(l.take k).length=k:=by rw[io];omega
 have ht:=hl.take k;refine⟨ht.evb,ht.tm,fun j hj=>?_,fun j hj=>?_⟩
 ·have hj':j<k/8:=by have:j<(qda T0 l k).length:=hj;rwa[qd1]at this
  show(gky (qda T0 l k) j).after<=(l.take k).length/\(gky (qda T0 l k) j).state=qL (qb6 T0 (l.take k) (gky (qda T0 l k) j).after);rw[qfb T0 l hj',hn,qnK T0 l (by dsimp only;omega) hk];exact⟨by dsimp only;omega,rfl⟩
 ·have hj':j+1<k/8:=by have:j+1<(qda T0 l k).length:=hj;rwa[qd1]at this
  show(gky (qda T0 l k) j).after<(gky (qda T0 l k) (j+1)).after;rw[qfb T0 l hj',qfb T0 l (by omega)];dsimp only;omega
theorem qqk (r:Rc)(i:Nat)(p:Pl)(h:p.k<=r.keys.length):(qbB r i p).k<=r.keys.length/\p.k<=(qbB r i p).k:=by
 unfold qbB;split
 ·dsimp only;omega
 ·exact⟨h,iD _⟩
theorem evP_k (r:Rc)(i:Nat)(p:Pl):(evP r i p).k=p.k:=by unfold evP;split<;>rfl
theorem qfc {r:Rc}(hs:r.start.length<=300000)(hk:∀j,j<r.keys.length->(gky r.keys j).state.length<=300000)(he:∀i,i<r.evs.length->evB (ge r.evs i)=true):∀i,(qk r i).k<=r.keys.length/\(qk r i).out.length<=300015+300025*(qk r i).k+465*min i r.evs.length
 |0=>⟨ip _,by have:=qah 83 r.start;show(qP 83 r.start).length<=300015+300025*0+_;omega⟩
 |i+1=>by
  obtain⟨h1,h2⟩:=qfc hs hk he i
  obtain⟨h3,h4⟩:=qqk r i (qk r i) h1
  have h5:(qbB r i (qk r i)).out.length<=300015+300025*(qbB r i (qk r i)).k+465*min i r.evs.length:=by
   unfold qbB;split
   ·rename_i hc
    dsimp only;have:=qah 75 (qS (gky r.keys (qk r i).k));have:=qe0 (gky r.keys (qk r i).k);have:=hk _ hc.1;rw[hJ];omega
   ·exact h2
  show(evP r i (qbB r i (qk r i))).k<=_/\(evP r i (qbB r i (qk r i))).out.length<=300015+300025*(evP r i (qbB r i (qk r i))).k+_;rw[evP_k];refine⟨h3,?_⟩;unfold evP;split
  ·rename_i hc
   dsimp only;have:=qah 69 (evI (qY r.evs i) (ge r.evs i));have:=qeg (fr:=qY r.evs i) (he i hc);rw[hJ];omega
  ·omega
theorem rcb_of {r:Rc}(hs:byts r.start/\r.start.length<=300000)(hk:∀j,j<r.keys.length->byts (gky r.keys j).state/\(gky r.keys j).state.length<=300000/\(gky r.keys j).after<=100000000)(he:EvsOk r.evs)(h1:r.keys.length<=300)(h2:r.evs.length<=3000):RcB r:=by
 refine⟨⟨hs.1,by omega⟩,fun j hj=>⟨(hk j hj).1,by have:=(hk j hj).2.1;omega,(hk j hj).2.2⟩,fun i hi=>⟨he.evb i hi,he.tm i hi⟩,fun i=>?_⟩;obtain⟨a,c⟩:=qfc hs.2 (fun j hj=>(hk j hj).2.1) he.evb i;omega
theorem recB_b {T0:TS}{l:List Ev}(h:OkS T0)(hl:EvsOk l){k:Nat}(hk:k<=l.length)(hn:k<=2400):RcB (qia T0 l k):=by
 have hd:=h.dec;refine rcb_of ⟨qcc hd,qc1 hd⟩ (fun j hj=>?_) (hl.take k) (by show(qda T0 l k).length<=300;rw[qd1];omega) (by show(l.take k).length<=3000;rw[io];omega);have hj':j<k/8:=by have:j<(qda T0 l k).length:=hj;rwa[qd1]at this
 show byts (gky (qda T0 l k) j).state/\(gky (qda T0 l k) j).state.length<=300000/\(gky (qda T0 l k) j).after<=100000000;rw[qfb T0 l hj'];have a:=(h.fold hl (8*(j+1)) (by omega)).dec;exact⟨qcc a,qc1 a,by dsimp only;omega⟩
theorem recB_len {T0:TS}{l:List Ev}(h:OkS T0)(hl:EvsOk l){k:Nat}(hk:k<=l.length)(hn:k<=80):(qp (qia T0 l k)).out.length<=3500000:=by
 have hd:=h.dec;have a:(qia T0 l k).keys.length=k/8:=qd1 T0 l k;have c:(qia T0 l k).evs.length=k:=by show(l.take k).length=k;rw[io];omega
 obtain⟨d,f⟩:=qfc (r:=qia T0 l k) (qc1 hd) (fun j hj=>by
  rw[a]at hj;show(gky (qda T0 l k) j).state.length<=300000;rw[qfb T0 l hj];exact qc1 (h.fold hl (8*(j+1)) (by omega)).dec) (hl.take k).evb ((qia T0 l k).evs.length+1)
 have e:(qp (qia T0 l k)).out=(qk (qia T0 l k) ((qia T0 l k).evs.length+1)).out:=rfl;rw[e];rw[a]at d;rw[c]at f;rw[c]at d⊢;omega
theorem qdI {c:Int}{b:List Int}(hc:0<=c/\c<=255)(h:byts b)(hl:b.length<2^63):byts (qP c b):=qbI (qhe hc h) (by rw[iy];omega)
theorem qib {r:Rc}(hW:RcB r):∀i,byts (qk r i).out
 |0=>qdI (by decide) hW.st.1 (by have:=hW.st.2;omega)
 |i+1=>by
  have ih:=qib hW i
  have h1:byts (qbB r i (qk r i)).out:=by
   unfold qbB;split
   ·rename_i hc
    obtain⟨c,e,f⟩:=hW.ks _ hc.1;exact qj ih (qdI (by decide) (qj (qq (by omega)) c) (by have:=qe0 (gky r.keys (qk r i).k);omega))
   ·exact ih
  show byts (evP r i (qbB r i (qk r i))).out;unfold evP;split
  ·rename_i hc
   obtain⟨a,d,g⟩:=hW.ev i hc;exact qj h1 (qdI (by decide) (qdX a d) (by have:=qeg (fr:=qY r.evs i) a;omega))
  ·exact h1
theorem qfd {r:Rc}:(qp r).pos.length<=r.keys.length:=by
 have a:=(pl_k r (r.evs.length+1)).1;have c:=(pl_a r (r.evs.length+1) (iD _)).1;show(qk r (r.evs.length+1)).pos.length<=_;omega
theorem qaM {r:Rc}(hW:RcB r)(hk:r.keys.length<=10000000)(whole:Bool):byts (qbA r whole):=by
 have a:=qib hW (r.evs.length+1);unfold qbA;split
 ·refine qj a ?_
  have hp:=pl_p hW (r.evs.length+1);have hl:=qfd (r:=r);have ha:=pl_a r (r.evs.length+1) (iD _);have c:=(pl_k r (r.evs.length+1)).1;have c:(qp r).pos.length=(qk r (r.evs.length+1)).k:=c;refine qj (qdI (by decide) (qgp hW hp hl hk (fun j hj=>?_) _ (iD _)) ?_) (qdI (by decide) (fun x hx=>?_) (show 4<2^63 by decide))
  ·have:=ha.2 j (by omega)
   exact⟨this,(hW.tm this).2⟩
  ·have:=qfE r (qp r).pos (qp r).pos.length
   omega
  ·simp only[jb,jg,or_false]at hx
   rcases hx with rfl|rfl|rfl|rfl<;>exact qgk _
 ·exact a
theorem encB_len {T0:TS}{l:List Ev}(h:OkS T0)(hl:EvsOk l){k:Nat}(hk:k<=l.length)(hn:k<=80)(whole:Bool):(qbA (qia T0 l k) whole).length<=4000000:=by
 have a:=recB_len h hl hk hn;have c:=qhb (qia T0 l k) (((qp (qia T0 l k)).out.length:Nat):Int) (qp (qia T0 l k)).pos;have d:=qfd (r:=qia T0 l k);have e:(qia T0 l k).keys.length=k/8:=qd1 T0 l k;unfold qbA;split
 ·rw[hJ];omega
 ·omega
theorem qql {r:Rc}(hW:RcB r):∀f∈(frK r (r.evs.length+1)).1,f.length<2^64:=fun f hf=>by
 have h1:=hW.ln (r.evs.length+1)
 rw[(qgn r (r.evs.length+1)).1,hJ]at h1
 have h2:(qa0 f).length<=(qcv (frK r (r.evs.length+1)).1).length:=by
  obtain⟨a,b,e⟩:=List.append_of_mem hf;rw[e];simp[qcv];omega
 have:=qbj f;omega
theorem next_nil:(qaD []).2=0:=by
 have:=qdC (l:=[]);simpa using this
theorem qnL (r:Rc)(n:Int)(ps:List Int)(hl:ps.length<=10000000):∃q,(qaD (qc7 r n ps)).1=73::q:=by
 have h:=qfE r ps ps.length;refine⟨qg2 r ps ps.length,?_⟩;unfold qc7 qP;rw[qfC _ (by rw[iy];omega)]
theorem qkC {dec:List Int->Option TS}{T0:TS}{r:Rc}(h:RcOk T0 r)(hW:RcB r)(hd:dec r.start=some T0)(hk:r.keys.length<=10000000)(whole:Bool):qd8 dec (qbA r whole)=some (⟨r,qb6 T0 r.evs r.evs.length⟩,(qbA r false).length):=by
 have a:qbA r false=(qp r).out:=if_neg jR;have hs:=hW.st.2;rw[a];cases whole with
 |false=>
  rw[a];have:=qmp (dec:=dec) h hd (by omega) (qql hW) [] (.inl next_nil);rwa[iF]at this
 |true=>
  rw[show qbA r true=(qp r).out++qc7 r (((qp r).out.length:Nat):Int) (qp r).pos from if_pos rfl];obtain⟨q,hq⟩:=qnL r (((qp r).out.length:Nat):Int) (qp r).pos (by have:=qfd (r:=r);omega);exact qmp h hd (by omega) (qql hW) _ (.inr (by rw[hq];exact qgq (by decide) (by decide)))
theorem dec_encR {dec:List Int->Option TS}{T0:TS}{r:Rc}(h:RcOk T0 r)(hW:RcB r)(hd:dec r.start=some T0)(hk:r.keys.length<=10000000)(whole:Bool):qR dec (qbA r whole)=some ⟨r,qb6 T0 r.evs r.evs.length⟩:=by
 unfold qR;rw[qkC h hW hd hk whole];refine if_neg fun hh=>?_;cases whole with
 |false=>exact absurd hh.1 (Nat.lt_irrefl _)
 |true=>exact hh.2 rfl
theorem qbe {w:World}{b o:Nat}{l:List Ev}(h:Rd w (some ⟨b,o,none⟩) (qdi l))(x:Int)(q j:Nat)(v:Value)(hx:x.toNat=q:=by omega)(hq:q<l.length:=by omega)(hv:(ge l q).vals[j]? =some v:=by rfl)(hj:j<5:=by decide):w.cell? ⟨b,o+x.toNat*5+j,none⟩=some v:=by
 have:=h.2 ⟨b,o,none⟩ rfl (q*5+j) v ((qj3 _ _ _ hq hj).trans hv);rw[add_pl]at this;rw[hx,jS];exact this
section
variable {w0 w:World}{F0:Nat->Prop}{l:List Asn}{b sb:Nat}{r:Rc}{x:ScX}{tl:List Value}{T:TypeId}
theorem Sep.rcx (h:Sep w0 F0 w l)(k:Nat)(x:ScX)(tl:List Value)(T:TypeId)(h0:l[k]? =some (qbX b (qnB x r tl) T):=by rfl)(h1:l[k+1]? =some (qaf tEv 5 x.eo r.evs.length x.ec (qdi r.evs)):=by rfl)(h2:l[k+2]? =some (qaf qgo 2 x.ko r.keys.length x.kc (qay x.kx r.keys 0)):=by rfl)(h3:l[k+3]? =some (roA (roL x r)):=by rfl)(h4:l[k+4]? =some (qcX (ScOk x r)):=by rfl):RcRd w b x.sa x.sn x.sc x.eo x.ec x.ko x.kc x.kx r:=by
 have hp:=h.pure (k+4) h4;have hr:=h.ro (k+3) h3;have hb:=h.b k h0;refine⟨hb.c 0 rfl,hb.c 1 rfl,hb.c 2 rfl,hr (x.sa,r.start) (je ..),hp.sl,hp.sz,(h.own (k+1) h1).rd,(h.own (k+2) h2).rd,hp.en,fun i hi=>⟨hr ((x.kx i).1,(gky r.keys i).state) (iW _ (j9.2 ⟨i,jz.2 hi,rfl⟩)),hp.kl i hi⟩⟩
end
section
variable {w0 w w':World}{F0:Nat->Prop}{l:List Asn}{b sb:Nat}
theorem Sep.outRec {q:Fl}{qu lf:Int}{s:Sc}(h:Sep w0 F0 w l)(i:Nat)(hi:l[i]? =some (logA b sb q qu lf s):=by rfl):∃x tl,Sep w0 F0 w (recL b s.r x tl qdH):=by
 have h:=h.only hi fun _ h=>h;obtain⟨_,h⟩:=h.unpack 0;obtain⟨x,h⟩:=h.unpack 2;exact⟨x,wrC sb x.t,(h.ord [3,4,5,6,7]).eqv⟩
theorem Sep.outScan {s:Sc}(h:Sep w0 F0 w l)(i:Nat)(hi:l[i]? =some (qej b s):=by rfl):∃x tl,Sep w0 F0 w (recL b s.r x tl qag):=by
 have h:=h.only hi fun _ h=>h;obtain⟨x,h⟩:=h.unpack 0;exact⟨x,[.pointer (some ⟨x.t,0,none⟩)],(h.ord [1,2,3,4,5]).eqv⟩
theorem NewA.scan {s:Sc}(h:NewA (qej b s) w w'):∃x tl,Sep w (fun _=>False) w' (recL b s.r x tl qag):=((Sep.nil w).addN h).outScan 0
end
structure Plan where
 p1:Int
 p2:Int
 ea:Option Addr
 en:Nat
 ec:Nat
 l:List Ev
 ma:Option Addr
 mn:Nat
 mc:Nat
 ms:List Int
def Plan.val (p:Plan):Value:= .agg #[.int .i64 p.p1,.int .i64 p.p2,.slice p.ea p.en p.ec,.slice p.ma p.mn p.mc]
structure PlanIn (w:World)(p:Plan):Prop where
 er:Rd w p.ea (qdi p.l)
 el:p.l.length=p.en
 ez:p.en=0\/ ∃b off,p.ea=some ⟨b,off,none⟩
 mr:Rd w p.ma (p.ms.map (Value.int .i64))
 ml:p.ms.length=p.mn
 mz:p.mn=0\/ ∃b off,p.ma=some ⟨b,off,none⟩
 eb:p.en<=9223372036854775807
 mb:p.mn<=9223372036854775807
theorem PlanIn.ch {w w':World}{p:Plan}(h:PlanIn w p)(hc:Ch (fun _=>False) w w'):PlanIn w' p:={h with er:=h.er.ch hc fun _ _ h=>h,mr:=h.mr.ch hc fun _ _ h=>h}
def Plan.T0 (p:Plan):TS:=startT zeroT p.p1 p.p2
theorem Plan.ok (p:Plan):OkS p.T0:=OkS.start p.p1 p.p2
abbrev Plan.t (p:Plan):List Ev:=tameL p.l
theorem Plan.tok {p:Plan}(h:p.l.length<=40):EvsOk p.t/\p.t.length=p.l.length:=⟨(qmu p.l p.l.length (by omega)).1,qkB _ _⟩
theorem qqm (a b:Ev):((a.time==b.time)&&((a.kind==b.kind)&&(((a.data).toList==(b.data).toList)&&((a.w==b.w)&&((a.h==b.h)&&true)))))=true↔a=b:=by
 obtain⟨t,k,d,w,h⟩:=a;obtain⟨t',k',d',w',h'⟩:=b;dsimp only;simp only[ii,iR,k7,Ev.mk.injEq];constructor
 ·rintro ⟨c,e,f,g,i⟩;exact⟨c,e,qhR (iR.2 f),g,i⟩
 rintro ⟨c,e,f,g,i⟩;exact⟨c,e,by rw[f],g,i⟩
theorem evs_ext {a b:List Ev}(hl:a.length=b.length)(h:∀i,i<a.length->ge a i=ge b i):a=b:=by
 refine List.ext_getElem hl fun i c d=>?_;have:=h i c;unfold ge at this;rw[iq,iq,ig c,ig d]at this;exact this
theorem qic (a a2:Option Addr)(n m c c2:Nat)(l l2:List Ev)(w:World)(hr:Rd w a (qdi l))(hr2:Rd w a2 (qdi l2))(hn:l.length=n)(hm:l2.length=m)(hz:n=0\/ ∃b off,a=some ⟨b,off,none⟩)(hz2:m=0\/ ∃b off,a2=some ⟨b,off,none⟩)(hb:n<=10000000)(hb2:m<=9223372036854775807):CP 17 [.slice a n c,.slice a2 m c2].toArray w fun e w'=> ∃r:Bool,e= .returned (.bool r)/\(r=true↔l=l2)/\Ch (fun _=>False) w w':=by
 have h:=Sep.nil w;refine yA Tryz.func17 rfl<|yx 1<|ys<|yx 5<|yc (rI (n:Int) (m:Int)) (fun d=>?_) fun d=>?_
 ·have v:=d;refine yx 1<|q9 (rS (yR1 (xF) ?_));exact⟨_,rfl,⟨fun e=>(by cases e),fun e=>absurd (congrArg List.length e) (by omega)⟩,h.ch⟩
 have x:=d;refine yk<|ys<|yx 1<|qa<|qZ [0,1,5] (f':=[(0,.slice a n c),(1,.slice a2 m c2),(5,iX 0)])<|qy (σ:=Nat) (fun k=>[(0,.slice a n c),(1,.slice a2 m c2),(5,iX (k:Int))]) (fun k u=>k<=n/\(∀j,j<k->ge l j=ge l2 j)/\Sep w (fun _=>False) u []) (fun k=>n-k) 0 rfl ?_ ?_
 ·exact⟨ip _,fun j hj=>absurd hj (j2 j),h.take 0⟩
 intro k u p y q;obtain⟨hk,hE,h⟩:=p;refine ys<|yx 4<|yc (rL (k:Int) (n:Int)) (fun f=>?_) fun f=>?_
 ·have A:=f;obtain⟨B,C,rfl⟩:=hz.resolve_left (by omega);obtain⟨D,E,rfl⟩:=hz2.resolve_left (by omega);refine yk<|ys<|qa<|ys<|zD [] h fun u h=>yd (uL 0 9) [] (.i (k:Int) (n) (.m (qbe (hr.ch h.ch fun _ _ h=>h) ((k:Int)) k 0 _) (.m (qbe (hr.ch h.ch fun _ _ h=>h) ((k:Int)) k 1 _) (.m (qbe (hr.ch h.ch fun _ _ h=>h) ((k:Int)) k 2 _) (.m (qbe (hr.ch h.ch fun _ _ h=>h) ((k:Int)) k 3 _) (.m (qbe (hr.ch h.ch fun _ _ h=>h) ((k:Int)) k 4 _) (.e (.i (k:Int) (m) (.m (qbe (hr2.ch h.ch fun _ _ h=>h) ((k:Int)) k 0 _) (.m (qbe (hr2.ch h.ch fun _ _ h=>h) ((k:Int)) k 1 _) (.m (qbe (hr2.ch h.ch fun _ _ h=>h) ((k:Int)) k 2 _) (.m (qbe (hr2.ch h.ch fun _ _ h=>h) ((k:Int)) k 3 _) (.m (qbe (hr2.ch h.ch fun _ _ h=>h) ((k:Int)) k 4 _) (.e .z))))))))))))))<|yDe (nS ?_);refine yc (rN (rY ((((ge l k).time:Int)==(ge l2 k).time)&&((((ge l k).kind:Int)==(ge l2 k).kind)&&((((ge l k).data).toList==((ge l2 k).data).toList)&&((((ge l k).w:Int)==(ge l2 k).w)&&((((ge l k).h:Int)==(ge l2 k).h)&&true))))))) (fun g=>?_) fun g=>?_
  ·have s:=g;refine yx 1<|q9 (rB (rS (qA (rB (rS (yR1 (xF) ?_))))));exact⟨_,rfl,⟨fun e=>(by cases e),fun e=>absurd ((qqm (ge l k) (ge l2 k)).2 (by rw[e])) (j0.1 s)⟩,h.ch⟩
  have t:=g;refine qm (nB (nS ?_));refine q7<|yp 3 [] (.q6 ((k:Int)+1) .z)<|yE (fun a ha=>q (k+1) _ ⟨by omega,fun j hj=>(iJ j k).elim (fun o=>hE j o) fun o=>by(obtain rfl:j=k:=by omega);exact(qqm _ _).1 t,h.take 0⟩ (by show n-(k+1)<n-k;omega) a (ha.kp [0,1,5]))
 have F:=f;refine ql (eS (qd (qb (nS ?_))));refine yx 1<|q9 (yR1 (.bool true) ?_);exact⟨_,rfl,⟨fun _=>evs_ext (by omega) fun i hi=>hE i (by omega),fun _=>rfl⟩,h.ch⟩
theorem qnM {t:Nat}{T:TS}{F:Nat->Prop}(e:Ev)(w:World)(hA:(qau t T).P w F)(hg:Gz w F)(hT:LT w)(hFi:Fine T)(hz:e.data.size<=1000000):CP 53 [pX t,.agg e.vals.toArray].toArray w fun x w'=>x= .returned (.tuple #[])/\qkj (qau t T) (qau t (qa8 T e)) F w w':=by
 have h:=Sep.one hA fun b hb=>(hg.lo b hb).2;obtain⟨⟨W,H,hL⟩,hp⟩:=hFi;refine yA Tryz.func53 rfl<|ysr<|yo (zN [iX e.time,iX e.kind,.string e.data,iX e.w,iX e.h] 66 h fun u n h=>?_);refine ye<|ys<|ysr<|yp 3 [] (.l (h.c 1 1) .z)<|ye<|yc (rE e.kind 0) (fun d=>?_) fun d=>?_
 ·have j:=d;refine q7<|yp 3 [] (.l (h.c 1 2) .z)<|yo (yQ (h.met 0 fun F hA hF=>qm0 hA (h.lt hg hT) hL hp e.data hz) fun u h=>?_);refine ye<|ysr<|yp 3 [] (.l (h.c 1 1) .z)<|ye<|yc (rE e.kind 2) (fun f=>?_) fun f=>?_
  ·have o:=f;exfalso;omega
  have p:=f;refine qm (qV ?_);have a:qa8 T e=(qgL T e.data):=by unfold qa8;rw[if_pos j]
  rw[a];exact⟨rfl,h.finS hg 0⟩
 have i:=d;refine yk<|ysr<|yp 3 [] (.l (h.c 1 1) .z)<|ye<|yc (rE e.kind 2) (fun g=>?_) fun g=>?_
 ·have k:=g;refine q7<|yp 5 [] (.l (h.c 1 3) (.l (h.c 1 4) .z))<|yo (yQ (h.met 0 fun F hA hF=>qjX hA (h.lt hg hT) hL e.w e.h) fun u h=>?_);refine yE (qV ?_);have a:qa8 T e=(qcH T e.w e.h):=by unfold qa8;rw[if_neg i,if_pos k]
  rw[a];exact⟨rfl,h.finS hg 0⟩
 have m:=g;refine qm (qV ?_);have a:qa8 T e=T:=by unfold qa8;rw[if_neg i,if_neg m]
 rw[a];exact⟨rfl,h.finS hg 0⟩
section
variable {w0 w:World}{F0:Nat->Prop}{l:List Asn}{t:Nat}{T:TS}
theorem Sep.app13 (h:Sep w0 F0 w l)(hg:Gz w0 F0)(hT:LT w0)(i:Nat)(e:Ev)(hFi:Fine T)(hz:e.data.size<=1000000)(hi:l[i]? =some (qau t T):=by rfl):CP 53 [pX t,.agg e.vals.toArray].toArray w fun x w'=>x= .returned (.tuple #[])/\Sep w0 F0 w' (l.set i (qau t (qa8 T e))):=
  h.stepA hg i (fun F hA hF=>qnM e _ hA hF (h.lt hg hT) hFi hz) hi
end
theorem Own.bz {w:World}{o:Option Nat}{n c:Nat}{x:List Value}(h:Own w tU8 1 o n c x):(n=0/\c=0)\/ ∃b q,o.map at0=some ⟨b,q,none⟩:=by
 cases o with
 |none=>exact .inl (h.2.2.2.1 rfl)
 |some q=>exact .inr ⟨q,0,rfl⟩
theorem Own.nz {w:World}{o:Option Nat}{e:TypeId}{sz n c:Nat}{x:List Value}(h:Own w e sz o n c x):o.map at0=none->c=0:=by
 cases o with
 |none=>exact fun _=>(h.2.2.2.1 rfl).2
 |some q=>exact fun e=>by cases e
theorem Own.ez {w:World}{o:Option Nat}{n c:Nat}{x:List Value}(h:Own w tEv 5 o n c x):n=0\/ ∃b off,o.map at0=some ⟨b,off,none⟩:=by
 cases o with
 |none=>exact .inl (h.2.2.2.1 rfl).1
 |some q=>exact .inr ⟨q,0,rfl⟩
theorem rc_ext {r q:Rc}(h1:r.start=q.start)(h2:r.evs=q.evs)(h3:r.keys.length=q.keys.length)(h4:∀j,j<r.keys.length->gky r.keys j=gky q.keys j):r=q:=by
 obtain⟨a,b,c⟩:=r;obtain⟨a',b',c'⟩:=q;dsimp only at*;subst h1 h2;congr 1;refine List.ext_getElem h3 fun i d e=>?_;have:=h4 i d;unfold gky at this;rw[iq,iq,ig d,ig e]at this;exact this
theorem ky_ext {a b:Ky}(h1:a.after=b.after)(h2:a.state=b.state):a=b:=by
 cases a;cases b;dsimp only at*;subst h1 h2;rfl
theorem RcRd.ez {w:World}{b:Nat}{sa:Option Addr}{sn sc:Nat}{eo:Option Nat}{ec:Nat}{ko:Option Nat}{kc:Nat}{kx:Nat->Option Addr×Nat×Nat}{r:Rc}(h:RcRd w b sa sn sc eo ec ko kc kx r):r.evs.length=0\/ ∃b off,eo.map at0=some ⟨b,off,none⟩:=by
 rcases jm r.evs.length with a|a
 ·exact .inl a
 ·obtain⟨eb,rfl⟩:=h.eb a
  exact .inr ⟨eb,0,rfl⟩
section
variable {w0 w w':World}{F0:Nat->Prop}{l:List Asn}{T0:TS}{r:Rc}{whole:Bool}{o:Option Nat}{n c b:Nat}{x:ScX}{tl:List Value}{T:TypeId}
theorem SepOn.rcx {is:List Nat}(h:SepOn w0 F0 l is w)(k:Nat)(x:ScX)(tl:List Value)(T:TypeId)(hm:([k,k+1,k+2,k+3,k+4].all fun i=>is.contains i)=true:=by rfl)(h0:l[k]? =some (qbX b (qnB x r tl) T):=by rfl)(h1:l[k+1]? =some (qaf tEv 5 x.eo r.evs.length x.ec (qdi r.evs)):=by rfl)(h2:l[k+2]? =some (qaf qgo 2 x.ko r.keys.length x.kc (qay x.kx r.keys 0)):=by rfl)(h3:l[k+3]? =some (roA (roL x r)):=by rfl)(h4:l[k+4]? =some (qcX (ScOk x r)):=by rfl):RcRd w b x.sa x.sn x.sc x.eo x.ec x.ko x.kc x.kx r:=by
 obtain⟨l',h,e⟩:=h;have g:=jF.1 e;simp only[List.all_cons,List.all_nil,k7,ii,List.contains_iff_mem]at hm;obtain⟨a,d,f,j,m⟩:=hm;exact h.rcx k x tl T ((g _ a).trans h0) ((g _ d).trans h1) ((g _ f).trans h2) ((g _ j).trans h3) ((g _ m).trans h4)
theorem SepOn.own {is:List Nat}{e:TypeId}{sz cap:Nat}{xs:List Value}(h:SepOn w0 F0 l is w)(i:Nat)(hm:is.contains i=true:=by rfl)(hi:l[i]? =some (qaf e sz o n cap xs):=by rfl):Own w e sz o n cap xs:=by
 obtain⟨l',h,e⟩:=h;exact h.own i ((jF.1 e i (by simpa using hm)).trans hi)
theorem SepOn.ownRd' {is:List Nat}{e:TypeId}{sz cap:Nat}{xs:List Value}(h:SepOn w0 F0 l is w)(i:Nat)(hm:is.contains i=true:=by rfl)(hi:l[i]? =some (qaf e sz o n cap xs):=by rfl):Rd w (o.map at0) xs:=(h.own i hm hi).rd
theorem Sep.enc13 (h:Sep w0 F0 w l)(k:Nat)(x:ScX)(tl:List Value)(T:TypeId)(hW:RcB r)(whole:Bool)(h0:l[k]? =some (qbX b (qnB x r tl) T):=by rfl)(h1:l[k+1]? =some (qaf tEv 5 x.eo r.evs.length x.ec (qdi r.evs)):=by rfl)(h2:l[k+2]? =some (qaf qgo 2 x.ko r.keys.length x.kc (qay x.kx r.keys 0)):=by rfl)(h3:l[k+3]? =some (roA (roL x r)):=by rfl)(h4:l[k+4]? =some (qcX (ScOk x r)):=by rfl):
  CP 20 [.pointer (some ⟨b,0,none⟩),.bool whole].toArray w fun e w'=> ∃o n c,e= .returned (.slice (o.map at0) n c)/\Sep w0 F0 w' (l++[qaf tU8 1 o n c (u8s (qbA r whole))]):=by
 have hR:=h.rcx k x tl T h0 h1 h2 h3 h4;cases whole with
 |true=>exact(qdF b w hR hW).mono fun e w' ⟨o,n,c,he,hN⟩=>⟨o,n,c,he,h.join hN⟩
 |false=>exact(qf8 b w hR hW).mono fun e w' ⟨o,n,c,he,hN⟩=>⟨o,n,c,he,h.join hN⟩
theorem Sep.dec13 (h:Sep w0 (fun _=>False) w l)(hT:LT w0)(h7:gTop<=w0.heap.size)(i:Nat)(hOk:RcOk T0 r)(hW:RcB r)(hs:r.start=qL T0)(hT0:OkS T0)(hk:r.keys.length<=100000)(hl:(qbA r whole).length<=9000000)(hi:l[i]? =some (qaf tU8 1 o n c (u8s (qbA r whole))):=by rfl):
  CP 19 [.slice (o.map at0) n c].toArray w fun e w'=> ∃b x tl,e= .returned (.tuple #[.pointer (some ⟨b,0,none⟩),.int .i64 0])/\Sep w0 (fun _=>False) w' (l++recL b r x tl qag):=by
 have hO:=h.own i hi;have hd:decW T0 r.start=some T0:=by rw[hs];exact decW_at T0
 have hr:=qkC (dec:=decW T0) hOk hW hd (by omega) whole;have a:=dec_encR (dec:=decW T0) hOk hW hd (by omega) whole;refine(qem (dec:=decW T0) (o.map at0) n c (qbA r whole) w (qaI h.ch hT (fun _ h=>h.elim)) (im h7 h.ch.size) hO.rd hO.len1' hO.2.1 hO.bz (qaM hW (by omega) whole) (by have:=hO.len1';omega) (decW_of hT0) (fun s k hh=>?_)).mono fun e w' ⟨v,x,he,hv⟩=>?_
 ·rw[hr]at hh
  obtain⟨rfl,rfl⟩:=il (ia hh);exact⟨hW,qaM hW (by omega) true⟩
 ·rcases hv with⟨hn,_⟩|⟨b,s,d,rfl,rfl,hN⟩
  ·rw[a]at hn;cases hn
  ·rw[a]at d
   obtain rfl:=ia d;obtain⟨x,tl,hN⟩:=hN.scan;exact⟨b,x,tl,he,h.join hN⟩
end
structure BuiltF (p:Plan)(r:Rc):Prop where
 st:r.start=qL p.T0
 ev:r.evs=p.t
 el:r.evs.length=p.en
 kl:r.keys.length=p.en/8
 kg:∀j,j<p.en/8->gky r.keys j=⟨8*(j+1),qL (qb6 p.T0 p.t (8*(j+1)))⟩
 W:RcB r
 ok:RcOk p.T0 r
 ln:∀whole,(qbA r whole).length<=4000000
def qjf:TS:=startT zeroT 2 1
def fitE:Ev:=⟨3,0,⟨#[97]⟩,0,0⟩
theorem qhi:OkS qjf:=OkS.start 2 1
theorem qqn:evB fitE=true:=by decide+kernel
theorem fit_len:(qP 83 (qL qjf)).length+(addB ⟨⟨qL qjf,[],[]⟩,qjf⟩ fitE).length<=2000:=by decide+kernel
abbrev fitR:Rc:=qia qjf [fitE] 1
theorem fit_add:addS ⟨⟨qL qjf,[],[]⟩,qjf⟩ fitE=⟨fitR,qb6 qjf [fitE] 1⟩:=add_scB qjf [fitE] (k:=0) (by decide)
theorem qlr:EvsOk [fitE]:=EvsOk.nil.snoc qqn (by decide)
theorem fitR_ok:RcOk qjf fitR:=recB_ok qlr (by decide)
theorem fitR_b:RcB fitR:=recB_b qhi qlr (by decide) (by decide)
theorem fitR_len (whole:Bool):(qbA fitR whole).length<=4000000:=encB_len qhi qlr (by decide) (by decide) whole
theorem qnN (b1:Nat){sa1:Option Addr}{sn1 sc1:Nat}{eo1:Option Nat}{ec1:Nat}{ko1:Option Nat}{kc1:Nat}{kx1:Nat->Option Addr×Nat×Nat}{r1:Rc}(b2:Nat){sa2:Option Addr}{sn2 sc2:Nat}{eo2:Option Nat}{ec2:Nat}{ko2:Option Nat}{kc2:Nat}{kx2:Nat->Option Addr×Nat×Nat}{r2:Rc}(w:World)(hR1:RcRd w b1 sa1 sn1 sc1 eo1 ec1 ko1 kc1 kx1 r1)(hR2:RcRd w b2 sa2 sn2 sc2 eo2 ec2 ko2 kc2 kx2 r2)(hW1:RcB r1)(hW2:RcB r2):CP 22 [pX b1,pX b2].toArray w fun e w'=> ∃r:Bool,e= .returned (.bool r)/\(r=true↔r1=r2)/\Ch (fun _=>False) w w':=by
 have a2:=hR1.en;have a3:=hR2.en;have h:=Sep.nil w;refine yA Tryz.func22 rfl<|yx 1<|ys<|qb9 (σ:=Bool) (fun gs=>[(0,pX b1),(1,pX b2),(50,.bool gs)]) (fun gs u=>(gs=true-> ¬r1=r2)/\(gs=false->r1.start=r2.start/\r1.evs=r2.evs/\r1.keys.length=r2.keys.length)/\Sep w (fun _=>False) u []) (fun a4 b=>?_) (fun gs u h=>?_)
 ·refine zDC [28] [] h fun u h=>ydF [0,1,2,3,4,5,6,7,8,9,10,12,13,14,15] [] h.on (fun u h=>(.l (hR1.ch h.ch).c0 (.l (hR2.ch h.ch).c0 .z)))<|qa5 11 16 (by kernel_rfl) (by decide) ?_ ?_
  ·refine qa4 11 _ (by kernel_rfl) rfl (qr sa1 sn1 sc1 (r1.start) (some 18) (by kernel_rfl) ((hR1.ch h.ch).st) ((hR1.ch h.ch).sl) ?_);refine zH h<|yH 16 (qr sa2 sn2 sc2 (r2.start) (some 23) (by kernel_rfl) ((hR2.ch h.ch).st) ((hR2.ch h.ch).sl) ?_);refine zH h<|ydF (uL 17 3) [] h.on (fun u h=> .z)<|yv [26] (rN (rY (((qe (r1.start))).toList==((qe (r2.start))).toList))) (fun d=>?_) fun d=>?_
   ·have E:=d;refine ydF (uL 20 24) [] h.on (fun u h=> .z)<|yDe (fun a ha=>b true _ ⟨fun e=>(fun q=>absurd ((qo hW1.st.1 hW2.st.1).trans (j4 (by rw[q]))) (j0.1 E)),fun e=>(by cases e),h.take 0⟩ a (ha.kp [0,1,50]))
   have F:=d;refine ydF (uL 20 8) [] h.on (fun u h=>(.l (hR1.ch h.ch).c1 (.l (hR2.ch h.ch).c1 .z)))<|yK 28 (yC (qic (eo1.map at0) (eo2.map at0) r1.evs.length r2.evs.length ec1 ec2 r1.evs r2.evs _ (hR1.ch h.ch).ev (hR2.ch h.ch).ev rfl rfl (hR1.ch h.ch).ez (hR2.ch h.ch).ez (by omega) (by omega)) ?_);rintro _ u ⟨G,rfl,B,H⟩;refine⟨_,rfl,?_⟩;have h:=h.same H;refine q8<|yd (uL 29 3) [] .z<|yv [38] (rN (rY G)) (fun f=>?_) fun f=>?_
   ·have I:=f;refine yd (uL 32 12) [] .z<|yDe (fun a ha=>b true _ ⟨fun e=>(fun q=>absurd (B.2 (by rw[q])) (j0.1 I)),fun e=>(by cases e),h.take 0⟩ a (ha.kp [0,1,50]))
   have J:=f;refine yd (uL 32 12) [] (.l (hR1.ch h.ch).c2 (.l (hR2.ch h.ch).c2 .z))<|yDe (fun a ha=>b (((r1.keys.length:Int):Int) !=(r2.keys.length:Int)) _ ⟨fun e=>(fun q=>by rw[q]at e;simp at e),fun e=>(⟨iB ((qo hW1.st.1 hW2.st.1).symm.trans F),B.1 J,by have q:(r1.keys.length:Int)=r2.keys.length:=(by simpa using e);omega⟩),h.take 0⟩ a (ha.kp [0,1,50]))
  refine qa4 16 _ (by kernel_rfl) rfl (qr sa2 sn2 sc2 (r2.start) (some 23) (by kernel_rfl) ((hR2.ch h.ch).st) ((hR2.ch h.ch).sl) ?_);refine zH h<|yH 11 (qr sa1 sn1 sc1 (r1.start) (some 18) (by kernel_rfl) ((hR1.ch h.ch).st) ((hR1.ch h.ch).sl) ?_);refine zH h<|ydF (uL 17 3) [] h.on (fun u h=> .z)<|yv [26] (rN (rY (((qe (r1.start))).toList==((qe (r2.start))).toList))) (fun g=>?_) fun g=>?_
  ·have K:=g;refine ydF (uL 20 24) [] h.on (fun u h=> .z)<|yDe (fun a ha=>b true _ ⟨fun e=>(fun q=>absurd ((qo hW1.st.1 hW2.st.1).trans (j4 (by rw[q]))) (j0.1 K)),fun e=>(by cases e),h.take 0⟩ a (ha.kp [0,1,50]))
  have L:=g;refine ydF (uL 20 8) [] h.on (fun u h=>(.l (hR1.ch h.ch).c1 (.l (hR2.ch h.ch).c1 .z)))<|yK 28 (yC (qic (eo1.map at0) (eo2.map at0) r1.evs.length r2.evs.length ec1 ec2 r1.evs r2.evs _ (hR1.ch h.ch).ev (hR2.ch h.ch).ev rfl rfl (hR1.ch h.ch).ez (hR2.ch h.ch).ez (by omega) (by omega)) ?_);rintro _ u ⟨M,rfl,C,N⟩;refine⟨_,rfl,?_⟩;have h:=h.same N;refine q8<|yd (uL 29 3) [] .z<|yv [38] (rN (rY M)) (fun n=>?_) fun n=>?_
  ·have O:=n;refine yd (uL 32 12) [] .z<|yDe (fun a ha=>b true _ ⟨fun e=>(fun q=>absurd (C.2 (by rw[q])) (j0.1 O)),fun e=>(by cases e),h.take 0⟩ a (ha.kp [0,1,50]))
  have P:=n;refine yd (uL 32 12) [] (.l (hR1.ch h.ch).c2 (.l (hR2.ch h.ch).c2 .z))<|yDe (fun a ha=>b (((r1.keys.length:Int):Int) !=(r2.keys.length:Int)) _ ⟨fun e=>(fun q=>by rw[q]at e;simp at e),fun e=>(⟨iB ((qo hW1.st.1 hW2.st.1).symm.trans L),C.1 P,by have q:(r1.keys.length:Int)=r2.keys.length:=(by simpa using e);omega⟩),h.take 0⟩ a (ha.kp [0,1,50]))
 obtain⟨o,p,h⟩:=h;refine yc (rY gs) (fun s=>?_) fun s=>?_
 ·have Q:=s;refine yx 1<|q9 (rS (yR1 (xF) ?_));exact⟨_,rfl,⟨fun e=>(by cases e),fun e=>absurd e (o Q)⟩,h.ch⟩
 have R:=s;obtain⟨S,T,U⟩:=p R;refine yk<|ys<|ysr<|yp 6 [] (.l (hR1.ch h.ch).c2 .z)<|ye<|qa<|qZ [1,54,55,56] (f':=[(1,pX b2),(54,.slice (ko1.map at0) r1.keys.length kc1),(55,iX (r1.keys.length:Int)),(56,iX 0)])<|qy (σ:=Nat) (fun k=>[(1,pX b2),(54,.slice (ko1.map at0) r1.keys.length kc1),(55,iX (r1.keys.length:Int)),(56,iX (k:Int))]) (fun k u=>k<=r1.keys.length/\(∀j,j<k->gky r1.keys j=gky r2.keys j)/\Sep w (fun _=>False) u []) (fun k=>r1.keys.length-k) 0 rfl ?_ ?_
 ·exact⟨ip _,fun j hj=>absurd hj (j2 j),h.take 0⟩
 intro k u V a5 W;obtain⟨hk,hE,h⟩:=V;refine yx 1<|ys<|yc (rL (k:Int) (r1.keys.length:Int)) (fun t=>?_) fun t=>?_
 ·have a6:=t;obtain⟨X,rfl⟩:=(hR1.ch h.ch).kb (by omega);obtain⟨a7,rfl⟩:=(hR2.ch h.ch).kb (by omega);refine yk<|ys<|qa<|ysr<|yp 3 [] (.i (k:Int) (r1.keys.length) (.m ((hR1.ch h.ch).kyx (x:=(k:Int)) (i:=k) (by omega) (by omega)).1 (.m ((hR1.ch h.ch).kyx (x:=(k:Int)) (i:=k) (by omega) (by omega)).2 (.e .z))))<|yo (zN [iX 0,nX] 51 h fun u Y h=>?_);refine yq 5<|yo (zs h 0 fun u h=>?_);refine ye ?_;have h:=h.nrm 0 [iX (((gky r1.keys k).after:Nat):Int),.slice (kx1 k).1 (kx1 k).2.1 (kx1 k).2.2];refine qb9 (σ:=Bool) (fun gs=>[(1,pX b2),(54,.slice (some ⟨X,0,none⟩) r1.keys.length kc1),(55,iX (r1.keys.length:Int)),(56,iX (k:Int)),(86,.bool gs)]) (fun gs u=>(gs=true-> ¬gky r1.keys k=gky r2.keys k)/\(gs=false->gky r1.keys k=gky r2.keys k)/\Sep w (fun _=>False) u [qbX Y [iX (((gky r1.keys k).after:Nat):Int),.slice (kx1 k).1 (kx1 k).2.1 (kx1 k).2.2] 51]) (fun a8 v=>?_) (fun gs u h=>?_)
  ·refine zDC [] [0] h fun u h=>ydF (uL 0 12) [] h.on (fun u h=>(.l (h.c 0 0) (.l (hR2.ch h.ch).c2 (.i (k:Int) (r2.keys.length) (.l ((hR2.ch h.ch).kyx (x:=(k:Int)) (i:=k) (by omega) (by omega)).1 .z)))))<|yv [72] (rI (((gky r1.keys k).after:Nat):Int) (((gky r2.keys k).after:Nat):Int)) (fun y=>?_) fun y=>?_
   ·have Z:=y;refine ydF (uL 12 14) [] h.on (fun u h=> .z)<|yDe (fun a ha=>v true _ ⟨fun e=>(fun q=>absurd (by rw[q]) Z),fun e=>(by cases e),h.take 1⟩ a (ha.kp [1,54,55,56,86]))
   have a9:=y;refine ydF [12,13,15,16,17,18,19,20,21,22] [] h.on (fun u h=>(.l (h.c 0 1) (.l (hR2.ch h.ch).c2 (.i (k:Int) (r2.keys.length) (.l ((hR2.ch h.ch).kyx (x:=(k:Int)) (i:=k) (by omega) (by omega)).2 .z)))))<|qa5 14 23 (by kernel_rfl) (by decide) ?_ ?_
   ·refine qa4 14 _ (by kernel_rfl) rfl (qr (kx1 k).1 (kx1 k).2.1 (kx1 k).2.2 ((gky r1.keys k).state) (some 75) (by kernel_rfl) ((hR1.ch h.ch).kr k (by omega)).1 ((hR1.ch h.ch).kr k (by omega)).2.1 ?_);refine zH h<|yH 23 (qr (kx2 k).1 (kx2 k).2.1 (kx2 k).2.2 ((gky r2.keys k).state) (some 84) (by kernel_rfl) ((hR2.ch h.ch).kr k (by omega)).1 ((hR2.ch h.ch).kr k (by omega)).2.1 ?_);refine zH h<|ydF [24,25] [] h.on (fun u h=> .z)<|yDe (fun a ha=>v (!(((qe ((gky r1.keys k).state))).toList==((qe ((gky r2.keys k).state))).toList)) _ ⟨fun e=>(fun q=>absurd ((qo (hW1.ks k (by omega)).1 (hW2.ks k (by omega)).1).trans (j4 (by rw[q]))) (j0.1 (by simpa using e))),fun e=>(ky_ext (by omega) (iB ((qo (hW1.ks k (by omega)).1 (hW2.ks k (by omega)).1).symm.trans (by simpa using e)))),h.take 1⟩ a (ha.kp [1,54,55,56,86]))
   refine qa4 23 _ (by kernel_rfl) rfl (qr (kx2 k).1 (kx2 k).2.1 (kx2 k).2.2 ((gky r2.keys k).state) (some 84) (by kernel_rfl) ((hR2.ch h.ch).kr k (by omega)).1 ((hR2.ch h.ch).kr k (by omega)).2.1 ?_);refine zH h<|yH 14 (qr (kx1 k).1 (kx1 k).2.1 (kx1 k).2.2 ((gky r1.keys k).state) (some 75) (by kernel_rfl) ((hR1.ch h.ch).kr k (by omega)).1 ((hR1.ch h.ch).kr k (by omega)).2.1 ?_);refine zH h<|ydF [24,25] [] h.on (fun u h=> .z)<|yDe (fun a ha=>v (!(((qe ((gky r1.keys k).state))).toList==((qe ((gky r2.keys k).state))).toList)) _ ⟨fun e=>(fun q=>absurd ((qo (hW1.ks k (by omega)).1 (hW2.ks k (by omega)).1).trans (j4 (by rw[q]))) (j0.1 (by simpa using e))),fun e=>(ky_ext (by omega) (iB ((qo (hW1.ks k (by omega)).1 (hW2.ks k (by omega)).1).symm.trans (by simpa using e)))),h.take 1⟩ a (ha.kp [1,54,55,56,86]))
  obtain⟨o,p,h⟩:=h;refine yc (rY gs) (fun A=>?_) fun A=>?_
  ·have a0:=A;refine yx 1<|q9 (rB (rS (qA (rB (rS (yR1 (xF) ?_))))));exact⟨_,rfl,⟨fun e=>(by cases e),fun e=>absurd (by rw[e]) (o a0)⟩,h.ch⟩
  have a1:=A;refine qm (nB (nS ?_));refine q7<|yp 2 [] (.q6 ((k:Int)+1) .z)<|yE (fun a ha=>W (k+1) _ ⟨by omega,fun j hj=>(iJ j k).elim (fun D=>hE j D) fun D=>by(obtain rfl:j=k:=by omega);exact p a1,h.take 0⟩ (by show r1.keys.length-(k+1)<r1.keys.length-k;omega) a (ha.kp [1,54,55,56]))
 have aa:=t;refine ql (eS (qd (qb (nS ?_))));refine yx 1<|q9 (yR1 (.bool true) ?_);exact⟨_,rfl,⟨fun _=>rc_ext S T U fun j hj=>hE j (by omega),fun _=>rfl⟩,h.ch⟩
theorem qqo (w:World)(hT:LT w)(h7:gTop<=w.heap.size):CP 14 [].toArray w (RQ (.bool true) w):=by
 have h:=Sep.nil w;refine yA Tryz.func14 rfl<|yx 1<|ysr<|yo (yC (qiJ (2) (1) _ (qaI h.ch hT (fun _ h=>h.elim)) (im h7 h.ch.size)) ?_);rintro _ u ⟨y,rfl,A,B⟩;refine⟨_,rfl,?_⟩;have h:=h.newTm (U:=qjf) A B;refine yz 2<|ysr<|yo (yC (fnew_any 2000 _) ?_);rintro _ u ⟨a,rfl,C⟩;refine⟨_,rfl,?_⟩;have h:=h.addN C;rw[show max (2000:Int) 0=2000 by decide]at h;refine yz 2<|ys<|ysr ?_;obtain⟨W,X,h⟩:=h.opn 0;refine yp 13 [] (.l (h.tg 0) .z)<|ye<|ycf<|yk<|ysr<|yq 2 ?_;obtain⟨g,d,i,j⟩:=h.ex;have Y:=fit_len;refine yo (yC (qnJ a y qjf 2000 0 (g 1) (g 0) _ (d 1 _ rfl) (h.gz (gz0 h7) (j 1)) (tmA.of (tmA.at (d 0 _ rfl))) (i 0 1 (by decide)) qhi (by omega) (by decide)) ?_);rintro _ u ⟨c,rfl,D⟩;refine⟨_,rfl,?_⟩;have h:=h.into 1 d i j (by simp only[hJ,iy,iP,iU];omega) D;have h:=Sep.pack (l:=[]) (L:=fun _:Unit=>[qbt a ⟨some ⟨qP 83 (qL qjf),0⟩,2000,false,0,false⟩,qfL c a ⟨⟨qL qjf,[],[]⟩,qjf⟩]) () (h.ord [1,2]).eqv;refine yz 8<|ys<|ysr<|yq 9<|yo (yQ (h.stepA (gz0 h7) 0 (fun F hA E=>add_any c a ⟨qL qjf,[],[]⟩ qjf (qP 83 (qL qjf)) 0 2000 0 fitE F _ hA E (qaI h.ch hT (fun _ h=>h.elim)) qhi qqn (by decide) (by decide) (by decide) (by omega) (by omega) (by decide))) fun u h=>?_);rw[fit_add]at h;refine yz 12<|ycf<|yk<|ysr<|yq 3 ?_;obtain⟨G,k,h⟩:=h.outRec 0
 obtain⟨m,n,o,p,q,s,t,v,x⟩:=G;refine yo (yC (h.enc13 0 ⟨m,n,o,p,q,s,t,v,x⟩ k qdH fitR_b true) ?_);rintro _ u ⟨Z,H,a0,rfl,h⟩;refine⟨_,rfl,?_⟩;have a1:(qbA fitR true).length=H:=by have:=h.len1 5;rwa[hZ]at this
 refine yo (yC (h.dec13 (whole:=true) hT h7 5 fitR_ok fitR_b rfl qhi (by decide) (by have:=fitR_len true;omega)) ?_);rintro _ u ⟨b24,I,J,rfl,h⟩;refine⟨_,rfl,?_⟩;obtain⟨K,M,N,O,P,Q,R,S,T⟩:=I;refine yz 10<|ysr<|yp 15 [] (.l (h.rcx 6 (b:=b24) (r:=fitR) ⟨K,M,N,O,P,Q,R,S,T⟩ J qag).c1 .z)<|yw [62] (rE (fitR.evs.length:Int) 1) (fun f=>?_) fun f=>?_
 ·have a2:=f;refine yq 18<|yo (yQ (h.look (qf6 c _ (h.rcx 0 (b:=c) (r:=fitR) ⟨m,n,o,p,q,s,t,v,x⟩ k qdH))) fun u h=>?_);refine yz 22<|q9 (yR1 (.bool (((qam fitR.evs):Int)==3)) ?_);exact⟨rfl,h.ch⟩
 have V:=f;exact absurd rfl V
end Go.Proofs.YtjjcnhgpccancaaGreatDoor.X

namespace Go.Proofs.YtjjcnhgpccancaaGreatDoor.X
open Go Go.RowKit Go.Proofs.YtjjcnhgpccancaaGreatDoor
def qe5 (ks:List Ky)(ix:List Nat):List Ky:=ix.map (gky ks)
def pickX (kx:Nat->Option Addr×Nat×Nat)(ix:List Nat):Nat->Option Addr×Nat×Nat:=fun i=>kx (ix.getD i 0)
theorem qdb (ks:List Ky)(ix:List Nat){j:Nat}(h:j<ix.length):gky (qe5 ks ix) j=gky ks (ix.getD j 0):=by
 unfold qe5;rw[show gky (ix.map (gky ks)) j=((ix.map (gky ks))[j]?).getD ⟨0,[]⟩from iq,iM,iq,ig h];rfl
def Rise (ix:List Nat)(n:Nat):Prop:=(∀j,j+1<ix.length->ix.getD j 0<ix.getD (j+1) 0)/\ ∀j,j<ix.length->ix.getD j 0<n
theorem qfe {ix:List Nat}{k j:Nat}(h:j<ix.length):(ix++[k]).getD j 0=ix.getD j 0:=by
 rw[iq,iz h,<-iq]
theorem Rise.nil (n:Nat):Rise [] n:=⟨fun j h=>absurd h (j2 _),fun j h=>absurd h (j2 _)⟩
theorem Rise.skip {ix:List Nat}{k:Nat}(h:Rise ix k):Rise ix (k+1):=⟨h.1,fun j hj=>by have:=h.2 j hj;omega⟩
theorem Rise.snoc {ix:List Nat}{k:Nat}(h:Rise ix k):Rise (ix++[k]) (k+1):=by
 have hl:(ix++[k]).length=ix.length+1:=by simp
 have hk:(ix++[k]).getD ix.length 0=k:=by simp
 refine⟨fun j hj=>?_,fun j hj=>?_⟩
 ·rw[hl]at hj
  rcases iJ (j+1) ix.length with a|a
  ·rw[qfe a,qfe (by omega)];exact h.1 j a
  ·rw[show j+1=ix.length by omega,hk,qfe (by omega)];exact h.2 j (by omega)
 ·rw[hl]at hj
  rcases iJ j ix.length with a|a
  ·rw[qfe a];have:=h.2 j a;omega
  ·rw[show j=ix.length by omega,hk];omega
def qkD (r:Rc)(ix:List Nat):Rc:=⟨r.start,r.evs,qe5 r.keys ix⟩
theorem qcr (r:Rc)(ix:List Nat):(qkD r ix).keys.length=ix.length:=by simp[qkD,qe5]
theorem Rise.len {n:Nat}:∀{ix:List Nat},Rise ix n->ix.length<=n:=fun{ix} h=>by
 have key:∀j,j<ix.length->j<=ix.getD j 0:=fun j=>by
  induction j with
  |zero=>exact fun _=>ip _
  |succ j ih=>exact fun hj=>by have:=ih (by omega);have:=h.1 j hj;omega
 rcases jm ix.length with h0|h0
 ·omega
 ·have:=key (ix.length-1) (by omega)
  have:=h.2 (ix.length-1) (by omega)
  omega
theorem pickR_ok {T0:TS}{r:Rc}(h:RcOk T0 r){ix:List Nat}(hr:Rise ix r.keys.length):RcOk T0 (qkD r ix):=by
 refine⟨h.evb,h.tm,fun j hj=>?_,fun j hj=>?_⟩
 ·rw[qcr]at hj
  show(gky (qe5 r.keys ix) j).after<=r.evs.length/\(gky (qe5 r.keys ix) j).state=qL (qb6 T0 r.evs (gky (qe5 r.keys ix) j).after);rw[qdb _ _ hj];exact h.ks _ (hr.2 j hj)
 ·rw[qcr]at hj
  show(gky (qe5 r.keys ix) j).after<(gky (qe5 r.keys ix) (j+1)).after;rw[qdb _ _ hj,qdb _ _ (by omega)];have d:∀a b,a<b->b<r.keys.length->(gky r.keys a).after<(gky r.keys b).after:=fun a b f=>by
   induction b with
   |zero=>omega
   |succ b ih=>
    intro hb;have e:=h.up b hb;rcases iJ a b with c|c
    ·have:=ih c (by omega);omega
    ·obtain rfl:a=b:=by omega
     exact e
  exact d _ _ (hr.1 j hj) (hr.2 (j+1) hj)
theorem pickR_b {r:Rc}{ix:List Nat}(hs:byts r.start/\r.start.length<=300000)(hk:∀j,j<r.keys.length->byts (gky r.keys j).state/\(gky r.keys j).state.length<=300000/\(gky r.keys j).after<=100000000)(he:EvsOk r.evs)(hr:Rise ix r.keys.length)(h1:r.keys.length<=300)(h2:r.evs.length<=3000):RcB (qkD r ix):=by
 have:=hr.len;refine rcb_of hs (fun j hj=>?_) he (by rw[qcr];omega) h2;rw[qcr]at hj;show byts (gky (qe5 r.keys ix) j).state/\(gky (qe5 r.keys ix) j).state.length<=300000/\(gky (qe5 r.keys ix) j).after<=100000000;rw[qdb _ _ hj];exact hk _ (hr.2 j hj)
theorem recl_of {r:Rc}(hW:RcB r)(hs:r.start.length<=300000)(hk:∀j,j<r.keys.length->(gky r.keys j).state.length<=300000)(he:EvsOk r.evs)(h1:r.keys.length<=10)(h2:r.evs.length<=80)(whole:Bool):(qbA r whole).length<=4000000:=by
 obtain⟨a,b⟩:=qfc hs hk he.evb (r.evs.length+1);have c:(qp r).out.length<=3500000:=by
  have e:(qp r).out=(qk r (r.evs.length+1)).out:=rfl;rw[e];omega
 have d:=qhb r (((qp r).out.length:Nat):Int) (qp r).pos;have f:=qfd (r:=r);unfold qbA;split
 ·rw[hJ];omega
 ·omega
theorem BuiltF.kb {p:Plan}{r:Rc}(h:BuiltF p r)(hp:p.l.length=p.en)(hf:p.en<=40):∀j,j<r.keys.length->byts (gky r.keys j).state/\(gky r.keys j).state.length<=300000/\(gky r.keys j).after<=100000000:=fun j hj=>by
 obtain⟨h1,h2⟩:=Plan.tok (p:=p) (by omega)
 rw[h.kl]at hj
 rw[h.kg j hj]
 have hd:=(p.ok.fold h1 (8*(j+1)) (by omega)).dec
 exact⟨qcc hd,qc1 hd,by dsimp only;omega⟩
theorem BuiltF.eo {p:Plan}{r:Rc}(h:BuiltF p r)(hp:p.l.length=p.en)(hf:p.en<=40):EvsOk r.evs:=h.ev▸(Plan.tok (p:=p) (by omega)).1
theorem BuiltF.pick {p:Plan}{r:Rc}(h:BuiltF p r)(hp:p.l.length=p.en)(hf:p.en<=40){ix:List Nat}(hr:Rise ix r.keys.length):RcOk p.T0 (qkD r ix)/\RcB (qkD r ix)/\ ∀whole,(qbA (qkD r ix) whole).length<=4000000:=by
 have hs:byts r.start/\r.start.length<=300000:=by rw[h.st];exact⟨qcc p.ok.dec,qc1 p.ok.dec⟩
 have hk:=h.kb hp hf;have he:=h.eo hp hf;have a:=h.kl;have b:=h.el;have hW:=pickR_b hs hk he hr (by omega) (by omega);refine⟨pickR_ok h.ok hr,hW,recl_of hW hs.2 (fun j hj=>?_) he (by rw[qcr];have:=hr.len;omega) (by show r.evs.length<=80;omega)⟩;rw[qcr]at hj;show(gky (qe5 r.keys ix) j).state.length<=300000;rw[qdb _ _ hj];exact(hk _ (hr.2 j hj)).2.1
theorem RcRd.pick {w:World}{b bx:Nat}{sa:Option Addr}{sn sc:Nat}{eo:Option Nat}{ec:Nat}{ko:Option Nat}{kc:Nat}{kx:Nat->Option Addr×Nat×Nat}{r:Rc}(h:RcRd w b sa sn sc eo ec ko kc kx r){ix:List Nat}(hr:Rise ix r.keys.length){o:Option Nat}{n c:Nat}{T:TypeId}
  (hb:Blk w bx [.slice sa sn sc,.slice (eo.map at0) r.evs.length ec,.slice (o.map at0) n c] T) (hO:Own w qgo 2 o n c (qay (pickX kx ix) (qe5 r.keys ix) 0)) (hn:ix.length=n):RcRd w bx sa sn sc eo ec o c (pickX kx ix) (qkD r ix):=by
 have hl:=qcr r ix;refine⟨hb.c 0 rfl,hb.c 1 rfl,by rw[hl,hn];exact hb.c 2 rfl,h.st,h.sl,h.sz,h.ev,hO.rd,⟨h.en.1,by rw[hl];have:=hr.len;have:=h.en.2;omega⟩,fun i hi=>?_⟩;rw[hl]at hi;show Rd w (pickX kx ix i).1 (u8s (gky (qe5 r.keys ix) i).state)/\_;rw[qdb _ _ hi];have:=h.kr _ (hr.2 i hi);exact⟨this.1,by show(gky (qe5 r.keys ix) i).state.length=_/\_;rw[qdb _ _ hi];exact this.2⟩
theorem wr_low13 {x:Int}(h:0<=x):IntKind.wrap .u8 (x % 128+128)=((x.toNat % 128+128:Nat):Int):=by
 rw[show x % 128+128=((x.toNat % 128+128:Nat):Int) by omega,wrap8];congr 1;omega
theorem wr_top13 {x:Int}(h:0<=x)(h2:x<128):IntKind.wrap .u8 x=(x.toNat:Int):=by
 obtain⟨n,rfl⟩:∃n:Nat,x=(n:Int):=⟨x.toNat,by omega⟩
 rw[wrap8,ik];congr 1;omega
theorem of32 {a:Int}(h:0<=a/\a<=4294967295):(BitVec.ofInt 32 a).toNat=a.toNat:=by
 rw[BitVec.toNat_ofInt];omega
theorem of8 {a:Int}(h:0<=a/\a<=255):(BitVec.ofInt 8 a).toNat=a.toNat:=by
 rw[BitVec.toNat_ofInt];omega
theorem qfM {a b:Int}(ha:0<=a/\a<=4294967295)(hb:0<=b/\b<=4294967295):qf .xor .u32 a b=((a.toNat^^^b.toNat:Nat):Int):=by
 have hx:a.toNat^^^b.toNat<2^32:=Nat.xor_lt_two_pow (by omega) (by omega);unfold qf;show IntKind.wrap .u32 (((BitVec.ofInt 32 a^^^BitVec.ofInt 32 b).toNat:Nat):Int)=_;rw[BitVec.toNat_xor,of32 ha,of32 hb];exact qbl (k:= .u32) (show 0<=(((a.toNat^^^b.toNat:Nat)):Int)/\(((a.toNat^^^b.toNat:Nat)):Int)<=4294967295 by omega)
theorem qmv {a:Int}(ha:0<=a/\a<=4294967295):qf .and .u32 a 1=((a.toNat % 2:Nat):Int):=by
 unfold qf;show IntKind.wrap .u32 (((BitVec.ofInt 32 a&&&BitVec.ofInt 32 1).toNat:Nat):Int)=_;rw[BitVec.toNat_and,of32 ha,show(BitVec.ofInt 32 1).toNat=1 by decide,Nat.and_one_is_mod];exact qbl (k:= .u32) (show 0<=((a.toNat % 2:Nat):Int)/\((a.toNat % 2:Nat):Int)<=4294967295 by omega)
theorem qqp {a:Int}(ha:0<=a/\a<=255):qf .and .u8 a 1=((a.toNat % 2:Nat):Int):=by
 unfold qf;show IntKind.wrap .u8 (((BitVec.ofInt 8 a&&&BitVec.ofInt 8 1).toNat:Nat):Int)=_;rw[BitVec.toNat_and,of8 ha,show(BitVec.ofInt 8 1).toNat=1 by decide,Nat.and_one_is_mod];exact qbl (k:= .u8) (show 0<=((a.toNat % 2:Nat):Int)/\((a.toNat % 2:Nat):Int)<=255 by omega)
theorem qmw {a:Int}(ha:0<=a)(j:Nat):Int.fdiv a (2^j)=((a.toNat>>>j:Nat):Int):=by
 obtain⟨n,rfl⟩:∃n:Nat,a=(n:Int):=⟨a.toNat,by omega⟩
 rw[ik,jK];rw[show((2:Int)^j)=((2^j:Nat):Int) by simp,jW _ (Int.natCast_nonneg _)];rfl
abbrev y1 (x:Int):Int:=Int.fdiv x (2^min (1:Int).toNat (IntKind.bits .u32))
theorem y1_nat {x:Int}(h:0<=x):y1 x=((x.toNat>>>1:Nat):Int):=qmw h 1
theorem qmx {c:Int}(h:0<=c/\c<=4294967295):crc1 c=(((c.toNat>>>1)^^^(if c.toNat % 2=1 then 3988292384 else 0):Nat):Int):=by
 have hs:c.toNat>>>1=c.toNat/2:=by rw[jK]
 have hw:IntKind.wrap .u32 (3988292384*(qf .and .u32 c 1))=(((if c.toNat % 2=1 then 3988292384 else 0):Nat):Int):=by
  rw[qmv h];rcases kv c.toNat with e|e
  ·rw[e,if_neg (by decide)];rfl
  ·rw[e,if_pos rfl];rfl
 show qf .xor .u32 (y1 c) (IntKind.wrap .u32 (3988292384*(qf .and .u32 c 1)))=_;rw[hw,y1_nat h.1,qfM (by omega) (by split<;>omega),ik,ik]
theorem crc_step {x v c:Int}{j:Nat}(hx:0<=x/\x<=4294967295)(hc:0<=c/\c<=4294967295)(he:c.toNat=x.toNat^^^(v.toNat>>>j)):
  (c.toNat % 2=1->0<=qf .xor .u32 (y1 x) 3988292384/\qf .xor .u32 (y1 x) 3988292384<=4294967295/\(crc1 c).toNat=(qf .xor .u32 (y1 x) 3988292384).toNat^^^(v.toNat>>>(j+1)))/\
  (¬c.toNat % 2=1->0<=y1 x/\y1 x<=4294967295/\(crc1 c).toNat=(y1 x).toNat^^^(v.toNat>>>(j+1))):=by
 have hs:x.toNat>>>1=x.toNat/2:=by rw[jK]
 have hy:=y1_nat hx.1;have a:c.toNat>>>1=(x.toNat>>>1)^^^(v.toNat>>>(j+1)):=by rw[he,Nat.shiftRight_xor_distrib,Nat.shiftRight_add]
 refine⟨fun h=>?_,fun h=>?_⟩
 ·have hb:=qdB .xor (y1 x) 3988292384
  refine⟨hb.1,hb.2,?_⟩;rw[qmx hc,if_pos h,ik,a,qfM (by omega) (by decide),ik,hy,ik,show(3988292384:Int).toNat=3988292384 from rfl];rw[Nat.xor_assoc,Nat.xor_comm (v.toNat>>>(j+1)),<-Nat.xor_assoc]
 ·refine⟨by omega,by omega,?_⟩
  rw[qmx hc,if_neg h,ik,a,hy,ik,Nat.xor_zero]
theorem qqq {c:Int}(h:0<=c/\c<=4294967295):∀j,0<=qlc c j/\qlc c j<=4294967295
 |0=>h
 |j+1=>by show 0<=crc1 (qlc c j)/\crc1 (qlc c j)<=4294967295;exact qdB _ _ _
theorem qqr {x v:Int}{j:Nat}{c:Nat}(hx:0<=x/\x<=4294967295)(hv:0<=v/\v<=255)(hj:j<8)(he:c=x.toNat^^^(v.toNat>>>j)):
  qf .xor .u32 (qf .and .u32 x 1) (IntKind.wrap .u32 (qf .and .u8 (Int.fdiv v (2^min (j:Int).toNat (IntKind.bits .u8))) 1))=((c % 2:Nat):Int):=by
 have hm:min (j:Int).toNat (IntKind.bits .u8)=j:=by rw[ik];exact jB (by show j<=8;omega)
 have hl:v.toNat>>>j<=v.toNat:=by rw[jK];exact Nat.div_le_self _ _
 rw[hm,qmw hv.1];generalize v.toNat>>>j=q at hl he⊢;rw[qmv hx,qqp (by omega),qbl (k:= .u32) (show 0<=(((q:Int).toNat % 2:Nat):Int)/\(((q:Int).toNat % 2:Nat):Int)<=4294967295 by omega),qfM (by omega) (by omega),ik,ik,ik,he];have:=Nat.xor_mod_two_pow (a:=x.toNat) (b:=q) (n:=1);rw[Nat.pow_one]at this;rw[this]
theorem crc_zero {x v:Int}(hv:0<=v/\v<=255):x.toNat^^^(v.toNat>>>8)=x.toNat:=by
 have:v.toNat>>>8=0:=by rw[jK];exact Nat.div_eq_of_lt (by omega)
 rw[this,Nat.xor_zero]
theorem qqs {x v:Int}(hx:0<=x/\x<=4294967295)(hv:0<=v/\v<=255):(qf .xor .u32 x v).toNat=x.toNat^^^(v.toNat>>>0):=by
 rw[qfM hx (by omega),ik,Nat.shiftRight_zero]
theorem qgu {T0:TS}{r:Rc}(h:RcOk T0 r){i:Nat}(hi:i<=r.evs.length+1):(qk r i).k<=r.keys.length/\(∀j,j<(qk r i).k->(gky r.keys j).after<i)/\((qk r i).k<r.keys.length->i<=(gky r.keys (qk r i).k).after):=by
 obtain⟨_,a,b,c⟩:=fr_ok h i hi;rw[<-(qgn r i).2]at a b c;exact⟨a,b,c⟩
theorem up_lt {T0:TS}{r:Rc}(h:RcOk T0 r){a:Nat}:∀{b:Nat},a<b->b<r.keys.length->(gky r.keys a).after<(gky r.keys b).after
 |0,hab,_=>by omega
 |b+1,hab,hb=>by
  have h1:=h.up b hb
  rcases iJ a b with h2|h2
  ·have:=up_lt h h2 (by omega);omega
  ·obtain rfl:a=b:=by omega
   exact h1
def qff (r:Rc)(pos:List Int):Nat->List Int
 |0=>[]
 |i+1=>qff r pos i++(qt (gky r.keys i).after++(qt (qY r.evs (gky r.keys i).after).toNat++qt (pos.getD i 0).toNat))
theorem qmy (r:Rc)(pos:List Int):∀i,qg2 r pos i=qt pos.length++qff r pos i
 |0=>by simp[qg2,qff]
 |i+1=>by rw[qg2,qmy r pos i,qff,ie]
theorem qmz (r:Rc)(pos:List Int)(x:Int):∀i,i<=pos.length->qff r (pos++[x]) i=qff r pos i
 |0,_=>rfl
 |i+1,h=>by
  rw[qff,qff,qmz r pos x i (by omega),iq,iz (by omega),<-iq]
def qfk (r:Rc)(i j:Nat):Pl:=if(qk r i).k<j then qbB r i (qk r i)else qk r i
abbrev qj7 (r:Rc)(i j:Nat):List Int:=qff r (qfk r i j).pos (qfk r i j).k
theorem qmA (r:Rc)(i:Nat):qfk r i 0=qk r i:=if_neg (j2 _)
theorem mid_no {T0:TS}{r:Rc}(h:RcOk T0 r){i j:Nat}(hi:i<=r.evs.length)(hj:j<r.keys.length)(hn:¬(gky r.keys j).after=i):qfk r i (j+1)=qfk r i j:=by
 unfold qfk;by_cases a:(qk r i).k<j
 ·rw[if_pos (by omega),if_pos a]
 ·rw[if_neg a]
  split
  ·obtain rfl:j=(qk r i).k:=by omega
   exact if_neg fun hh=>hn hh.2
  ·rfl
theorem qqt {T0:TS}{r:Rc}(h:RcOk T0 r){i j:Nat}(hi:i<=r.evs.length)(hj:j<r.keys.length)(hy:(gky r.keys j).after=i):(qk r i).k=j/\qfk r i j=qk r i/\qfk r i (j+1)=⟨(qk r i).out++qP 75 (qS (gky r.keys j)),(qk r i).pos++[(((qk r i).out.length:Nat):Int)],j+1⟩:=by
 obtain⟨c,a,b⟩:=qgu h (i:=i) (by omega);have hk:(qk r i).k=j:=by
  rcases Nat.lt_trichotomy (qk r i).k j with hl|hl|hl
  ·have:=b (by omega)
   have:=up_lt h hl hj;omega
  ·exact hl
  ·have:=a j hl;omega
 refine⟨hk,if_neg (by omega),?_⟩;unfold qfk;rw[if_pos (by omega)];unfold qbB;rw[hk,if_pos ⟨hj,hy⟩]
theorem qls {T0:TS}{r:Rc}(h:RcOk T0 r){i:Nat}(hi:i<=r.evs.length):qfk r i r.keys.length=qbB r i (qk r i):=by
 obtain⟨a,b,c⟩:=qgu h (i:=i) (by omega);unfold qfk;split
 ·rfl
 ·exact(if_neg fun hh=>by omega).symm
theorem mid_j {T0:TS}{r:Rc}(h:RcOk T0 r){i j:Nat}(hi:i<=r.evs.length)(hj:j<r.keys.length)(hy:(gky r.keys j).after=i):qj7 r i (j+1)=qj7 r i j++(qt i++(qt (qY r.evs i).toNat++qt (qk r i).out.length)):=by
 obtain⟨a,b,c⟩:=qqt h hi hj hy;have hl:=(pl_k r i).1;unfold qj7;rw[c,b,a];dsimp only;rw[qff,qmz r _ _ j (by omega),hy];have:((qk r i).pos++[(((qk r i).out.length:Nat):Int)]).getD j 0=(((qk r i).out.length:Nat):Int):=by
  rw[<-a,<-hl];simp
 rw[this,ik]
theorem idx_all {r:Rc}(N:Int):qc7 r N (qp r).pos=qP 73 (qt (qp r).k++qff r (qp r).pos (qp r).k)++qP 70 [IntKind.wrap .u8 N,IntKind.wrap .u8 (Int.fdiv N (2^8)),IntKind.wrap .u8 (Int.fdiv N (2^16)),IntKind.wrap .u8 (Int.fdiv N (2^24))]:=by
 have hl:(qp r).pos.length=(qp r).k:=(pl_k r (r.evs.length+1)).1;unfold qc7;rw[hl,qmy,hl]
theorem qmB (r:Rc)(pos:List Int)(j:Nat):(qff r pos j).length<=30*j+10:=by
 have:=qfE r pos j;rw[qmy,hJ]at this;omega
theorem qqu {r:Rc}(hW:RcB r)(i j:Nat):(qfk r i j).out.length<=102000000/\(qk r i).out.length<=100000000:=by
 have a:=hW.ln i;refine⟨?_,a⟩;unfold qfk;split
 ·unfold qbB
  split
  ·rename_i hc
   have b:=qah 75 (qS (gky r.keys (qk r i).k));have c:=qe0 (gky r.keys (qk r i).k);have d:=(hW.ks _ hc.1).2.1;dsimp only;rw[hJ];omega
  ·omega
 ·omega
theorem mid_k {T0:TS}{r:Rc}(h:RcOk T0 r){i:Nat}(hi:i<=r.evs.length)(j:Nat):(qfk r i j).k<=r.keys.length:=by
 obtain⟨a,_,_⟩:=qgu h (i:=i) (by omega);unfold qfk;split
 ·exact(qqk r i _ a).1
 ·exact a
theorem qnO {r:Rc}(hW:RcB r)(hk:r.keys.length<=10000000):byts (qt (qp r).k++qff r (qp r).pos (qp r).k):=by
 have hl:(qp r).pos.length=(qp r).k:=(pl_k r (r.evs.length+1)).1;have ha:=pl_a r (r.evs.length+1) (iD _);have:=qgp hW (pl_p hW (r.evs.length+1)) (qfd (r:=r)) hk (fun j hj=>by
  have:=ha.2 j (by rw[show(qk r (r.evs.length+1)).k=(qp r).k from rfl,<-hl];exact hj);exact⟨this,(hW.tm this).2⟩) _ (iD _)
 rw[show(qk r (r.evs.length+1)).pos=(qp r).pos from rfl,qmy,hl]at this;exact this
theorem ev_time {l:List Ev}{i:Nat}:qY l (i+1)=(ge l i).time:=by unfold qY;rw[if_neg (by omega),k8]
theorem qj8 {n:Nat}(k:Nat):Int.fdiv (n:Int) (2^k)=(n:Int)/2^k:=jW _ (by
 have:=Nat.two_pow_pos k
 have e:((2:Int)^k)=((2^k:Nat):Int):=by simp
 omega)
end Go.Proofs.YtjjcnhgpccancaaGreatDoor.X
