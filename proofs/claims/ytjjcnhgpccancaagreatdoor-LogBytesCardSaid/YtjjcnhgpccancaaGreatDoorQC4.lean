/- What the proofs of LogBytes need, part 4: the walks of the program's functions and the plain laws about them. -/
import Derived.Test.YtjjcnhgpccancaaGreatDoorQC3
import Derived.Laws.Strings
set_option linter.unusedSimpArgs false
set_option linter.unusedVariables false
set_option maxHeartbeats 4000000
namespace Go.Proofs.YtjjcnhgpccancaaGreatDoor.X
open Go Go.RowKit Go.Proofs.YtjjcnhgpccancaaGreatDoor
theorem turn_at {w:World}{t:Nat}{W H:Int}{T:TS}{F:Nat->Prop}(hA0:TermAt w t T F)(hT:LT w)(hL:Lim W H T)(b:Bool):CP 192 [pX t,.bool b].toArray w fun e w'=>e= .returned (.tuple #[])/\TermAt w' t (qkL T b) (more F w w')/\Ch F w w':=by
 obtain⟨g,o,ba,bn,bc,pa,pn,pc,F1,F2,FB,FP,hI⟩:=hA0;have hA0:TermAt w t T F:=⟨g,o,ba,bn,bc,pa,pn,pc,F1,F2,FB,FP,hI⟩
 have s:=hI.inF.1;obtain⟨gv,aZ⟩:=hI.g1.head;have b0:Df t g:=fun e=>hI.t1 (e▸hI.g1.inF);obtain⟨⟨b1,b2⟩,⟨b3,b4⟩,b5,b6⟩:=hI.g1.ok;have ac:=hL;have b7:=ac.all;obtain⟨b8,ad⟩:=hI.g2.head;have f:Df t o:=fun e=>hI.t2 (e▸hI.g2.inF);refine yA Tryz.func192 rfl<|ys<|ysr<|yp 6 [] (.l (hI.blk.c 95) .z)<|ye<|yc (rY (b==T.alt)) (fun m=>?_) fun m=>?_
 ·refine q9 (rS (yR0 ?_));have N:=hI.cht (Ch.refl (· =t) w);have ae:=hI.pk1 hI N;refine⟨rfl,TermAt.eq' ae ?_,N⟩;exact if_pos m
 refine yk<|ysr<|yq 4<|yo (yS hI.blk fun b9 af O=>?_);have ag:=zt (Ch.refl (· =t) w) O (fun i hi (h:i=t)=>h);have ah:=ad.ch O (fun h=>f h.symm);refine ye<|ys<|yD [12,15] fun bb bd v=>?_;have ai:=zt ag v eZ;have aj:=ah.ch v id;have A:=af.ch v id;refine yd (uL 0 12) [] (.l (A.c 1) (.l (A.c 0) .z))<|yK 12 (yS A fun bf ak P=>?_);have al:=zt ai P (fun i hi (h:i=t)=>h);have am:=aj.ch P (fun h=>f h.symm);refine q8<|yd [13,14] [] .z<|yK 15 (yS ak fun bg an Q=>?_);have ao:=zt al Q (fun i hi (h:i=t)=>h);have ap:=am.ch Q (fun h=>f h.symm);refine q8<|yDe (nS ?_);refine ys<|yD [12,15] fun bh bi B=>?_;have aq:=zt ao B eZ;have ar:=ap.ch B id;have au:=an.ch B id;have C:Blk _ t (TS.vals ({T with grid:=T.other,other:=T.grid,alt:=b}:TS) o g (.slice ba bn bc) (.slice pa pn pc)) qas:=Blk.to au (by kernel_rfl);refine yd (uL 0 12) [] (.a (C.cs 18 8) (.a (C.cs 2 8) .z))<|yK 12 (yS C fun bj av R=>?_);have ax:=zt aq R (fun i hi (h:i=t)=>h);have ay:=ar.ch R (fun h=>f h.symm);refine q8<|yd [13,14] [] .z<|yK 15 (yS av fun bk S U=>?_);have D:=zt ax U (fun i hi (h:i=t)=>h);have az:=ay.ch U (fun h=>f h.symm);refine q8<|yDe (nS ?_);refine yx 1<|yc (rY b) (fun E=>?_) fun E=>?_
 ·refine ysr ?_;have V:Blk _ t (TS.vals ({T with grid:=T.other,other:=T.grid,cursor:=T.away,away:=T.cursor,alt:=b}:TS) o g (.slice ba bn bc) (.slice pa pn pc)) qas:=Blk.to S (by kernel_rfl);refine yp 7 [] (.a (V.cs 18 8) .z)<|yo (yS V fun bl X Y=>?_);have Z:=zt D Y (fun i hi (h:i=t)=>h);have aA:=az.ch Y (fun h=>f h.symm);refine ye<|ysr<|yp 8 [] (.l (X.c 0) (.l (aA.c 1) .z))<|ye<|qa ?_;have aB:Lim W H ({T with grid:=T.other,other:=T.grid,away:=T.cursor,alt:=b}:TS):={hL with aw:=⟨⟨(show(0:Int)<=T.cursor.x by omega),(show(T.cursor.x:Int)<W by omega)⟩,(show(0:Int)<=T.cursor.y by omega),(show(T.cursor.y:Int)<H by omega)⟩,g1:=⟨hL.g2.1,hL.g2.2⟩,g2:=⟨hL.g1.1,hL.g1.2⟩}
  have aC:=hI.swap (T':=({T with grid:=T.other,other:=T.grid,away:=T.cursor,alt:=b}:TS)) Z (Blk.to X (by kernel_rfl)) rfl rfl rfl rfl;have a0:=hI.cht Z;have aD:=aC.pk1 hI a0;refine qV [0,57,58] (f':=[(0,pX t),(57,iX T.other.h),(58,iX 0)])<|qx (σ:=Nat) (fun k=>[(0,pX t),(57,iX T.other.h),(58,iX (k:Int))]) (fun k u=>k<=T.other.h.toNat/\(TermAt u t (qim ({T with grid:=T.other,other:=T.grid,away:=T.cursor,alt:=b}:TS) k) (more F w u)/\Ch F w u)) (fun k=>T.other.h.toNat-k) 0 rfl ?_ ?_
  ·exact⟨il _,(TermAt.eq' aD rfl),a0⟩
  intro k G aE bm aF;obtain⟨hk,a1,I⟩:=aE;have aG:=qaN I hT (fun b hb=>hI.hi b hb);have J:Lim W H (qim ({T with grid:=T.other,other:=T.grid,away:=T.cursor,alt:=b}:TS) k):=(qn4 aB k)
  generalize a2:(qim ({T with grid:=T.other,other:=T.grid,away:=T.cursor,alt:=b}:TS) k)=d at a1 J;have aH:=J;have bo:=aH.all;obtain⟨aI,bp,bq,br,bs,bt,bu,bv,bw,bx,bz,bA,j⟩:=a1;obtain⟨bB,aJ⟩:=j.g1.head;have bC:Df t aI:=fun e=>j.t1 (e▸j.g1.inF);refine yx 1<|ys<|yc (rL (k:Int) T.other.h) (fun aK=>?_) fun aK=>?_
  ·refine yk<|ys<|qa<|yx 2<|yD [13] fun aL bD n=>?_;have p:=zt (Ch.refl (· =t) G) n eZ;have aM:=qaN n aG (fun _ h=>h.elim);have K:=j.blk.ch n id;have aN:=aJ.ch n id;refine yd (uL 0 13) [] (.l (K.c 0) (.l (K.c 0) (.l (aN.c 0) .z))) ?_;have a3:=j.scalar (T':=d) p K rfl rfl rfl rfl;have L:=Ch.on I p s;have bE:=a3.pk2 p hI L;have q:=a3.mono (F':=more F w aL) (fun b hb=>hb.elim .inl (fun h2=> .inr ⟨h2.1,by have:=zzs p;omega⟩)) (hI.moreOk L.size);refine yK 13 (yQ (qbe _ _ _ ((k:Int)) (0) (d.grid.w) qde _ aM.tb q.g1) ?_);rintro a4 ⟨aP,M⟩;obtain⟨a5,aQ⟩:=TermAt.next hA0 L (q.chF M) ⟨_,_,_,_,_,_,_,_,_,_,_,_,q.grid1 M aP (fun _ h=>h)⟩;have bF:=q.chF M;have a6:Lim W H ({d with grid:=(qb1 d.grid ((k:Int)) (0) (d.grid.w) qde)}:TS):=J.grid (qbK _ _ _ _ _);generalize aR:({d with grid:=(qb1 d.grid ((k:Int)) (0) (d.grid.w) qde)}:TS)=T115 at a5 a6;have aS:=a6;have bG:=aS.all;obtain⟨aT,bH,bI,bJ,bK,bL,bM,bN,bO,bP,bQ,bR,r⟩:=a5;obtain⟨bS,bT⟩:=r.g1.head;have bU:Df t aT:=fun e=>r.t1 (e▸r.g1.inF);refine q8<|yDe (nB (nS ?_));refine q7<|yp 2 [] (.q6 ((k:Int)+1) .z) ?_;have a7:=Ch.on aQ (Ch.refl (· =t) a4) s;have aU:=r.pk2 (Ch.refl (· =t) a4) hI a7;refine yE (fun a ha=>aF (k+1) _ ⟨(by omega),(TermAt.eq' aU (by subst aR;subst a2;rfl)),a7⟩ (by show T.other.h.toNat-(k+1)<T.other.h.toNat-k;omega) a (ha.kp [0,57,58]))
  have aV:k=T.other.h.toNat:=by omega
  refine qm (eS (qd (qb (qT ?_))));have a8:=Ch.on I (Ch.refl (· =t) G) s;have aW:=j.pk2 (Ch.refl (· =t) G) hI a8;subst a2;subst aV;refine⟨rfl,TermAt.eq' aW ?_,a8⟩;exact(if_neg (by rw[m];decide)).trans (if_pos E)
 refine ql (qT ?_);have aX:=hI.swap (T':=({T with grid:=T.other,other:=T.grid,cursor:=T.away,away:=T.cursor,alt:=b}:TS)) D (Blk.to S (by kernel_rfl)) rfl rfl rfl rfl;have a9:=hI.cht D;have aY:=aX.pk1 hI a9;refine⟨rfl,TermAt.eq' aY ?_,a9⟩;exact(if_neg (by rw[m];decide)).trans (if_neg (by rw[E];decide))
theorem qoN {w:World}{t:Nat}{W H:Int}{T:TS}{F:Nat->Prop}(hA0:TermAt w t T F)(hT:LT w)(hL:Lim W H T)(n:Int)(b:Bool):CP 167 [pX t,iX n,.bool b].toArray w fun e w'=>e= .returned (.tuple #[])/\TermAt w' t (qbn T n b) (more F w w')/\Ch F w w':=by
 have h:=Sep.startT hA0;have hg:=Gz.of hA0;have hM:=hL;have i:=hM.all;refine yA Tryz.func167 rfl<|yx 1<|qa<|yx 2<|yc (rE n 6) (fun c=>?_) fun c=>?_
 ·refine ysr<|yq 4<|yo (zT 0 ({T with origin:=b}:TS) h fun u h=>?_);refine ye<|q7<|yq 1 ?_;have d:Lim W H ({T with origin:=b}:TS):={hL with}
  refine yo (yQ (h.met 0 fun F hA hF=>qcy hA (h.tb hg hT.tb) d (1) (1) (by constructor<;>omega) (by constructor<;>omega)) fun u h=>?_);refine yE (nB (qT ?_));refine h.tfin hg ?_;simp only[qbn, *,↓reduceIte,Int.reduceEq,Int.reduceLT,Int.reduceLE,sB]
 refine yx 2<|yc (rE n 7) (fun f=>?_) fun f=>?_
 ·refine ysr<|yq 4<|yo (zT 0 ({T with wrap:=b}:TS) h fun u h=>?_);refine ye<|q7<|yp 7 [] (.l (h.tc 0 4) .z)<|yw [27] (rY T.cursor.late) (fun a=>?_) fun a=>?_
  ·refine yq 12<|yo (zT 0 ({T with cursor:=(Cur.mk T.cursor.x T.cursor.y b T.cursor.sty),wrap:=b}:TS) h fun u h=>?_);refine yE (nB (qT ?_));refine h.tfin hg ?_;simp only[qbn, *,↓reduceIte,Int.reduceEq,Int.reduceLT,Int.reduceLE,sB]
  refine yq 12<|yo (zT 0 ({T with cursor:=(Cur.mk T.cursor.x T.cursor.y false T.cursor.sty),wrap:=b}:TS) h fun u h=>?_);refine yE (nB (qT ?_));refine h.tfin hg ?_;simp only[qbn, *,↓reduceIte,Int.reduceEq,Int.reduceLT,Int.reduceLE,sB]
 refine yx 2<|yc (rE n 25) (fun a=>?_) fun a=>?_
 ·refine q7<|yq 5<|yo (zT 0 ({T with hidden:=(!b)}:TS) h fun u h=>?_);refine yE (nB (qT ?_));refine h.tfin hg ?_;simp only[qbn, *,↓reduceIte,Int.reduceEq,Int.reduceLT,Int.reduceLE,sB]
 refine yx 2<|yc (rE n 1049) (fun g=>?_) fun g=>?_
 ·refine q7<|yq 2<|yo (yQ (h.met 0 fun F hA hF=>turn_at hA (h.lt hg hT) hL b) fun u h=>?_);refine yE (nB (qT ?_));refine h.tfin hg ?_;simp only[qbn, *,↓reduceIte,Int.reduceEq,Int.reduceLT,Int.reduceLE,sB]
 refine ql (nB (qT ?_));refine h.tfin hg ?_;simp only[qbn, *,↓reduceIte,Int.reduceEq,Int.reduceLT,Int.reduceLE,sB]
theorem qhD (l:List Int)(T:TS)(b:Bool){k:Nat}(h:k<l.length):(l.take (k+1)).foldl (fun T n=>qbn T n b) T=qbn ((l.take k).foldl (fun T n=>qbn T n b) T) (l.getD k 0) b:=by
 rw[j2 h,List.foldl_append];simp[List.getD,ig h]
theorem csi_at {w:World}{t:Nat}{W H:Int}{T:TS}{F:Nat->Prop}(hA0:TermAt w t T F)(hT:LT w)(hL:Lim W H T){ao:Option Nat}{an cc:Nat}{ac:Ac}(hV:IntsAt w .i64 ao an cc ac.params (fun b=> ¬F b/\b<w.heap.size))(hV8:an<=8)(hVb:∀x∈ac.params,0<=x/\x<=9999):CP 132 [pX t,.agg #[iX ac.kind,rX ac.rune,uX ac.last,.string ac.marks,.slice (ao.map at0) an cc,.string ac.text]].toArray w fun e w'=>e= .returned (.tuple #[])/\TermAt w' t (qlG T ac) (more F w w')/\Ch F w w':=by
 have h:=Sep.startT hA0;have hg:=Gz.of hA0;have hM:=hL;have Y:=hM.all;have v:ac.params.length=an:=hV.2.1;refine yA Tryz.func132 rfl<|ysr<|yo (zN [iX ac.kind,rX ac.rune,uX ac.last,.string ac.marks,.slice (ao.map at0) an cc,.string ac.text] 190 h fun u d h=>?_);refine ye<|qa<|ysr<|yp 4 [] (.l (h.c 1 3) .z)<|ye<|yc (rY ((ac.marks).toList==(ByteArray.empty).toList)) (fun g=>?_) fun g=>?_
 ·refine q7<|yp 2 [] (.a (h.cs 1 0 6) .z)<|yo (yQ (h.met 0 fun F hA hF=>plain_at hA (h.lt hg hT) hL (h.intsF hV hF) hV8 hVb) fun u h=>?_);refine yE (nB (qT ?_));refine h.tfin hg ?_;simp only[qlG, *,↓reduceIte,Int.reduceEq,Int.reduceLT,Int.reduceLE,sB]
 refine ysr<|yp 4 [] (.l (h.c 1 3) .z)<|yw [17] (rY ((ac.marks).toList==((⟨#[63]⟩:ByteArray)).toList)) (fun j=>?_) fun j=>?_
 ·refine yp 8 [] (.l (h.c 1 2) .z)<|yw [21] (rE ac.last 104) (fun m=>?_) fun m=>?_
  ·refine yz 14<|yct<|ysr<|yp 4 [] (.l (h.c 1 4) .z)<|ye<|qa ?_;rcases ao with _|ab
   ·have p:ac.params=[]:=by have:=hV.1.1 rfl;simpa using this
    have D:an=0:=by have:=hV.2.1;rw[p]at this;exact this.symm
    refine qV [0,3,28,29,30] (f':=[(0,pX t),(3,pX d),(28,.slice none an cc),(29,iX (an:Int)),(30,iX 0)])<|qx (σ:=Nat) (fun k=>[(0,pX t),(3,pX d),(28,.slice none an cc),(29,iX (an:Int)),(30,iX (k:Int))]) (fun k u=>k<=an/\Sep w F u [qat t ((ac.params.take k).foldl (fun T n=>qbn T n ((ac.last:Int)==104)) T),qbX d [iX ac.kind,rX ac.rune,uX ac.last,.string ac.marks,.slice none an cc,.string ac.text] 190]) (fun k=>an-k) 0 rfl ?_ ?_
    ·exact⟨il _,h.cuts 2 rfl rfl⟩
    intro k u E Z a0;obtain⟨hk,h⟩:=E;have y:Lim W H ((ac.params.take k).foldl (fun T n=>qbn T n ((ac.last:Int)==104)) T):=(qdq hL _ _)
    generalize G:((ac.params.take k).foldl (fun T n=>qbn T n ((ac.last:Int)==104)) T)=T18 at h y;have I:=y;have a1:=I.all;refine yx 1<|ys<|yc (rL (k:Int) (an:Int)) (fun J=>?_) fun J=>?_
    ·exfalso;omega
    have f:k=ac.params.length:=by omega
    refine qm (eS (qd (qb (nB (qT ?_)))));subst G;subst f;refine h.tfin hg ?_;simp only[qlG,je,g,j,m,↓reduceIte,Int.reduceEq,iu,and_true,true_and,or_true,true_or,or_false,false_or]
   have v:ac.params.length=an:=hV.2.1;refine qV [0,3,28,29,30] (f':=[(0,pX t),(3,pX d),(28,.slice (some ⟨ab,0,none⟩) an cc),(29,iX (an:Int)),(30,iX 0)])<|qx (σ:=Nat) (fun k=>[(0,pX t),(3,pX d),(28,.slice (some ⟨ab,0,none⟩) an cc),(29,iX (an:Int)),(30,iX (k:Int))]) (fun k u=>k<=an/\Sep w F u [qat t ((ac.params.take k).foldl (fun T n=>qbn T n ((ac.last:Int)==104)) T),qbX d [iX ac.kind,rX ac.rune,uX ac.last,.string ac.marks,.slice (some ⟨ab,0,none⟩) an cc,.string ac.text] 190]) (fun k=>an-k) 0 rfl ?_ ?_
   ·exact⟨il _,h.cuts 2 rfl rfl⟩
   intro k u K a2 L;obtain⟨hk,h⟩:=K;have q:Lim W H ((ac.params.take k).foldl (fun T n=>qbn T n ((ac.last:Int)==104)) T):=(qdq hL _ _)
   generalize A:((ac.params.take k).foldl (fun T n=>qbn T n ((ac.last:Int)==104)) T)=T24 at h q;have M:=q;have a3:=M.all;refine yx 1<|ys<|yc (rL (k:Int) (an:Int)) (fun N=>?_) fun N=>?_
   ·refine yk<|ys<|qa<|ysr<|yp 3 [] (.i (k:Int) (an) (.l (o:=(0+((k:Int)).toNat*1)) (qck (h.ints hV).1 k (by omega)) .z))<|ye<|q7<|yp 5 [] (.l (h.c 1 2) .z)<|yo (yQ (h.met 0 fun F hA hF=>qoN hA (h.lt hg hT) q ((ac.params.getD k 0)) ((ac.last:Int)==104)) fun u h=>?_);refine yE (nB (nS ?_));refine q7<|yp 2 [] (.q6 ((k:Int)+1) .z)<|yE (fun a ha=>L (k+1) _ ⟨(by omega),h.cuts 2 rfl (by subst A;exact qhD _ _ _ (by omega))⟩ (by show an-(k+1)<an-k;omega) a (ha.kp [0,3,28,29,30]))
   have f:k=ac.params.length:=by omega
   refine qm (eS (qd (qb (nB (qT ?_)))));subst A;subst f;refine h.tfin hg ?_;simp only[qlG,je,g,j,m,↓reduceIte,Int.reduceEq,iu,and_true,true_and,or_true,true_or,or_false,false_or]
  refine yp 14 [] (.l (h.c 1 2) .z)<|ye<|yc (rE ac.last 108) (fun r=>?_) fun r=>?_
  ·refine ysr<|yp 4 [] (.l (h.c 1 4) .z)<|ye<|qa ?_;rcases ao with _|ab
   ·have p:ac.params=[]:=by have:=hV.1.1 rfl;simpa using this
    have D:an=0:=by have:=hV.2.1;rw[p]at this;exact this.symm
    refine qV [0,3,28,29,30] (f':=[(0,pX t),(3,pX d),(28,.slice none an cc),(29,iX (an:Int)),(30,iX 0)])<|qx (σ:=Nat) (fun k=>[(0,pX t),(3,pX d),(28,.slice none an cc),(29,iX (an:Int)),(30,iX (k:Int))]) (fun k u=>k<=an/\Sep w F u [qat t ((ac.params.take k).foldl (fun T n=>qbn T n ((ac.last:Int)==104)) T),qbX d [iX ac.kind,rX ac.rune,uX ac.last,.string ac.marks,.slice none an cc,.string ac.text] 190]) (fun k=>an-k) 0 rfl ?_ ?_
    ·exact⟨il _,h.cuts 2 rfl rfl⟩
    intro k u O a4 a5;obtain⟨hk,h⟩:=O;have B:Lim W H ((ac.params.take k).foldl (fun T n=>qbn T n ((ac.last:Int)==104)) T):=(qdq hL _ _)
    generalize P:((ac.params.take k).foldl (fun T n=>qbn T n ((ac.last:Int)==104)) T)=T31 at h B;have Q:=B;have a6:=Q.all;refine yx 1<|ys<|yc (rL (k:Int) (an:Int)) (fun R=>?_) fun R=>?_
    ·exfalso;omega
    have f:k=ac.params.length:=by omega
    refine qm (eS (qd (qb (nB (qT ?_)))));subst P;subst f;refine h.tfin hg ?_;simp only[qlG,je,g,j,m,r,↓reduceIte,Int.reduceEq,iu,and_true,true_and,or_true,true_or,or_false,false_or]
   have v:ac.params.length=an:=hV.2.1;refine qV [0,3,28,29,30] (f':=[(0,pX t),(3,pX d),(28,.slice (some ⟨ab,0,none⟩) an cc),(29,iX (an:Int)),(30,iX 0)])<|qx (σ:=Nat) (fun k=>[(0,pX t),(3,pX d),(28,.slice (some ⟨ab,0,none⟩) an cc),(29,iX (an:Int)),(30,iX (k:Int))]) (fun k u=>k<=an/\Sep w F u [qat t ((ac.params.take k).foldl (fun T n=>qbn T n ((ac.last:Int)==104)) T),qbX d [iX ac.kind,rX ac.rune,uX ac.last,.string ac.marks,.slice (some ⟨ab,0,none⟩) an cc,.string ac.text] 190]) (fun k=>an-k) 0 rfl ?_ ?_
   ·exact⟨il _,h.cuts 2 rfl rfl⟩
   intro k u S a7 U;obtain⟨hk,h⟩:=S;have s:Lim W H ((ac.params.take k).foldl (fun T n=>qbn T n ((ac.last:Int)==104)) T):=(qdq hL _ _)
   generalize C:((ac.params.take k).foldl (fun T n=>qbn T n ((ac.last:Int)==104)) T)=T37 at h s;have V:=s;have a8:=V.all;refine yx 1<|ys<|yc (rL (k:Int) (an:Int)) (fun X=>?_) fun X=>?_
   ·refine yk<|ys<|qa<|ysr<|yp 3 [] (.i (k:Int) (an) (.l (o:=(0+((k:Int)).toNat*1)) (qck (h.ints hV).1 k (by omega)) .z))<|ye<|q7<|yp 5 [] (.l (h.c 1 2) .z)<|yo (yQ (h.met 0 fun F hA hF=>qoN hA (h.lt hg hT) s ((ac.params.getD k 0)) ((ac.last:Int)==104)) fun u h=>?_);refine yE (nB (nS ?_));refine q7<|yp 2 [] (.q6 ((k:Int)+1) .z)<|yE (fun a ha=>U (k+1) _ ⟨(by omega),h.cuts 2 rfl (by subst C;exact qhD _ _ _ (by omega))⟩ (by show an-(k+1)<an-k;omega) a (ha.kp [0,3,28,29,30]))
   have f:k=ac.params.length:=by omega
   refine qm (eS (qd (qb (nB (qT ?_)))));subst C;subst f;refine h.tfin hg ?_;simp only[qlG,je,g,j,m,r,↓reduceIte,Int.reduceEq,iu,and_true,true_and,or_true,true_or,or_false,false_or]
  refine ql (nB (qT ?_));refine h.tfin hg ?_;simp only[qlG, *,↓reduceIte,Int.reduceEq,Int.reduceLT,Int.reduceLE,sB]
 refine yz 14<|ycf<|ql (nB (qT ?_));refine h.tfin hg ?_;simp only[qlG, *,↓reduceIte,Int.reduceEq,Int.reduceLT,Int.reduceLE,sB]
def TS.valsG (t:TS)(v0 v1 bk ps:Value):List Value:=v0::v1::(t.vals 0 0 bk ps).drop 2
theorem valsG_eq (t:TS)(g o:Nat)(bk ps:Value):t.valsG (.pointer (some ⟨g,0,none⟩)) (.pointer (some ⟨o,0,none⟩)) bk ps=t.vals g o bk ps:=by kernel_rfl
def qfI (T:TS)(G:Gr)(b:Int)(k:Nat):TS:=
 {grid:=G,other:=G,cursor:=cur0,saved:=cur0,away:=cur0,top:=0,bot:=b,tabs:=qil k,wrap:=true,origin:=false,insert:=false,hidden:=false,draw0:=false,draw1:=false,shift:=false,alt:=false,title:=ByteArray.empty,back:=[],parser:=T.parser,reply:=T.reply}
def qlK (T:TS)(G:Gr):TS:=
 {grid:=G,other:=G,cursor:=cur0,saved:=cur0,away:=cur0,top:=0,bot:=0,tabs:=fun _=>false,wrap:=true,origin:=false,insert:=false,hidden:=false,draw0:=false,draw1:=false,shift:=false,alt:=false,title:=ByteArray.empty,back:=[],parser:=T.parser,reply:=T.reply}
theorem tabs0_0:qil 0=fun _=>false:=by
 funext i;unfold qil;exact jr (by omega)
theorem qn7 (k:Nat):qil (k+1)=fun i=>if i=(8+8*(k:Int)).toNat then true else qil k i:=by
 funext i;unfold qil;by_cases h:i=(8+8*(k:Int)).toNat
 ·rw[if_pos h];exact jb (by omega)
 ·rw[if_neg h]
  by_cases a:i % 8=0/\8<=i/\i<8+8*k
  ·rw[jb a];exact jb (by omega)
  ·rw[jr a];exact jr (by omega)
theorem qn8 (T:TS)(p1 p2 b:Int)(k:Nat)(hr:T.reply.size<=400)(hb:b=qi p2):Lim (qi p1) (qi p2) (qfI T (qku p1 p2) b k):=by
 subst hb;exact(qeM T p1 p2 hr).flags rfl rfl rfl rfl rfl rfl rfl rfl rfl
def PsAt (w:World)(t:Nat)(pa:Option Addr)(pn pc:Nat)(l:List Int)(FP:Nat->Prop):Prop:=
 (Rd w pa (l.map (Value.int .i64))/\l.length=pn/\(pa=none->pc=0)/\ ∀ad,pa=some ad->FP ad.block)/\(∃po:Option Nat,pa=po.map at0)/\ ∀b,FP b->b<w.heap.size/\gTop<=b/\b≠t
theorem start_in {w w1 w2:World}{t g o:Nat}{pa:Option Addr}{pn pc:Nat}{T T0:TS}{F1 F2 FP F:Nat->Prop}{G:Gr}(hP:PsAt w t pa pn pc T.parser.params FP)(ht:t<w.heap.size)(ht7:gTop<=t)(hp:T0.parser.params=T.parser.params)(hk:T0.back=[])(hg:T0.grid=G)(ho:T0.other=G)
  (c1:Ch (fun j=>j=t) w w1) (s1:∀b,F1 b->w.heap.size<=b/\b<w2.heap.size) (s2:∀b,F2 b->w2.heap.size<=b) (c12:w.heap.size<=w2.heap.size)
  (h1:GridAt w1 g G F1) (h2:GridAt w1 o G F2) (hb:Blk w1 t (T0.vals g o (.slice none 0 0) (.slice pa pn pc)) qas) (hF:F=fun b=>b=t\/FP b\/(w.heap.size<=b/\b<w1.heap.size)):
  TermIn w1 t g o none 0 0 pa pn pc T0 F F1 F2 (fun _=>False) FP:=by
 obtain⟨hP,hz,hf⟩:=hP;subst hF;exact
 {blk:=hb
  g1:=by rw[hg];exact h1
  g2:=by rw[ho];exact h2
  bk:=⟨[],⟨Rd.nil _ _,rfl,(fun x hx=>by cases hx),(fun x hx=>by cases hx),(fun ad e=>by cases e),(fun b hb=>hb.elim),fun b hb=>hb.elim⟩,hk.symm⟩
  bcap:=⟨iG _,fun _=>rfl⟩
  ps:=by rw[hp];exact⟨hP.1.ch c1 fun ad e a=>(hf _ (hP.2.2.2 ad e)).2.2 a,hP.2⟩
  pz:=hz
  bz:= .inl rfl
  t1:=fun h=>by have:=(s1 t h).1;omega
  t2:=fun h=>by have:=s2 t h;omega
  tB:=fun h=>h
  tP:=fun h=>(hf t h).2.2 rfl
  a12:=fun b x y=>by have:=s1 b x;have:=s2 b y;omega
  a1B:=fun b _ h=>h
  a2B:=fun b _ h=>h
  a1P:=fun b x y=>by have:=s1 b x;have:=hf b y;omega
  a2P:=fun b x y=>by have:=s2 b x;have:=hf b y;omega
  inF:=⟨.inl rfl,fun b h=> .inr (.inr ⟨(s1 b h).1,h1.lt b h⟩),fun b h=> .inr (.inr ⟨by have:=s2 b h;omega,h2.lt b h⟩),fun b h=>h.elim,fun b h=> .inr (.inl h)⟩
  lt:=fun b h=>h.elim (fun h=>h▸hb.lt) fun h=>h.elim (fun h=>by have:=hf b h;have:=c1.size;omega) fun h=>h.2
  hi:=fun b h=>h.elim (fun h=>h▸ht7) fun h=>h.elim (fun h=>(hf b h).2.1) fun h=>by omega}
theorem qjy {w:World}{t:Nat}{v0 v1 bk:Value}{pa:Option Addr}{pn pc:Nat}{T:TS}{FP:Nat->Prop}(hB0:Blk w t (T.valsG v0 v1 bk (.slice pa pn pc)) qas)(hP:PsAt w t pa pn pc T.parser.params FP)(ht7:gTop<=t)(hT:LT w)(hr:T.reply.size<=400)(p1 p2:Int):CP 66 [pX t,iX p1,iX p2].toArray w fun e w'=>
 e= .returned (.tuple #[])/\TermAt w' t (startT T p1 p2) (fun b=>b=t\/FP b\/(w.heap.size<=b/\b<w'.heap.size))/\Ch (fun b=>b=t\/FP b) w w':=by
 have ht:=hB0.lt;have aC:1<=qi p1/\qi p1<=60:=by unfold qi;omega
 have aD:1<=qi p2/\qi p2<=60:=by unfold qi;omega
 refine yA Tryz.func66 rfl<|ys<|yDC [17] fun aE aF s=>?_;have v:=zt (Ch.refl (· =t) w) s eZ;have x:=hB0.ch s id;have J:=qaN s hT (fun _ h=>h.elim);refine ydC [0,1,2,4,5,7,8,9,10,11,12,13,14] [] (fun u hu=>(.a (qaq hu (x.cs 98 9) id) (.l (qg hu (x.c 107) id) .z)))<|yH 3 (yC (qoo p1 p2 _ J.tb (by have:=ht;have:=zzs v;omega)) ?_);rintro _ K ⟨m,y,rfl,L,a1,o⟩;refine⟨_,rfl,?_⟩;have M:∀b,y b->w.heap.size<=b:=fun b hb=>ip (zzs v) (a1 b hb);have p:=zt v o eZ;have a2:=x.ch o id;have a3:=qaN o J (fun _ h=>h.elim);refine qaK o ?_;have a4:=L.lt;have a5:=zzs p;refine yH 6 (yC (qoo p1 p2 _ a3.tb (by have:=ht;have:=zzs p;omega)) ?_);rintro _ aG ⟨A,N,rfl,a6,O,q⟩;refine⟨_,rfl,?_⟩;have a7:∀b,N b->w.heap.size<=b:=fun b hb=>ip (zzs p) (O b hb);have a8:=zt p q eZ;have a9:=a2.ch q id;have aa:=L.ch q iZ;refine qaK q<|ydC [15,16] [] (fun u hu=> .z)<|yK 17 (qaH 0 [pX m,pX A,iX 0,iX 0,xF,xF,xF,xF,iX 0,iX 0,iX 0,iX 0,xF,xF,xF,xF,iX 0,iX 0,iX 0,iX 0,xF,xF,xF,xF,iX 0,iX 0,iX 0,iX 0,xF,xF,xF,xF,xF,xF,xF,xF,xF,xF,xF,xF,xF,xF,xF,xF,xF,xF,xF,xF,xF,xF,xF,xF,xF,xF,xF,xF,xF,xF,xF,xF,xF,xF,xF,xF,xF,xF,xF,xF,xF,xF,xF,xF,xF,xF,xF,xF,xF,xF,xF,xF,xF,xF,xF,xF,xF,xF,xF,xF,.bool true,xF,xF,xF,xF,xF,xF,xF,oX,nX,iX T.parser.state,uX T.parser.utf.b0,uX T.parser.utf.b1,uX T.parser.utf.b2,iX T.parser.utf.n,.string T.parser.marks,.slice pa pn pc,.string T.parser.text,iX T.parser.within,.string T.reply] none (by kernel_rfl) a9 (qc4 (by kernel_rfl)) ?_)
 intro d g B;replace g:Blk d t (TS.vals (qlK T (qku p1 p2)) m A (nX) (.slice pa pn pc)) qas:=Blk.to g (by kernel_rfl);have P:=zt a8 B (fun i hi (h:i=t)=>h);have ab:=aa.ch B (fun b hb (h:b=t)=>by have:=M b hb;omega);have ac:=a6.ch B (fun b hb (h:b=t)=>by have:=a7 b hb;omega);obtain⟨F,C⟩:∃F:Nat->Prop,F=fun b=>b=t\/FP b\/(w.heap.size<=b/\b<d.heap.size):=⟨_,rfl⟩
 have ad:∀b,y b->w.heap.size<=b/\b<K.heap.size:=fun b hb=>⟨M b hb,a4 b hb⟩
 have hI:TermIn d t m A none 0 0 pa pn pc (qlK T (qku p1 p2)) F y N (fun _=>False) FP:=start_in (T:=T) (w2:=K) hP ht ht7 rfl rfl rfl rfl P ad O a5 ab ac g C;have Q:F t:=hI.inF.1;have aH:TermAt d t (qlK T (qku p1 p2)) F:=⟨_,_,_,_,_,_,_,_,_,_,_,_,hI⟩
 have D:=P;have aI:=hI.blk.lt;obtain⟨W,hW⟩:∃W,W=qi p1:=⟨_,rfl⟩
 obtain⟨H,hH⟩:∃H,H=qi p2:=⟨_,rfl⟩
 obtain⟨aJ,ae⟩:=hI.g1.head;have aK:Df t m:=fun e=>hI.t1 (e▸hI.g1.inF);refine q8<|yDe (nS ?_);refine ysr<|yp 10 [] (.l (g.c 0) (.l (ae.c 1) .z))<|yo (yS g fun aL af ag=>?_);have R:=zt (Ch.refl (· =t) d) ag (fun i hi (h:i=t)=>h);refine ye<|yx 1<|qa ?_;have ah:=hI.scalar (T':=({(qlK T (qku p1 p2))with bot:=(qku p1 p2).h}:TS)) R (Blk.to af (by kernel_rfl)) rfl rfl rfl rfl;have S:=hI.cht R;have ai:=ah.pk1 hI S;refine qV [0,6] (f':=[(0,pX t),(6,iX 8)])<|qx (σ:=Nat) (fun k=>[(0,pX t),(6,iX (8+8*(k:Int)))]) (fun k u=>k<=7/\(TermAt u t (qfI T (qku p1 p2) H k) (more F d u)/\Ch F d u)) (fun k=>7-k) 0 rfl ?_ ?_
 ·exact⟨(by omega),(TermAt.eq' ai (by subst hH;show qfI T (qku p1 p2) (qi p2) 0=_;unfold qfI;rw[tabs0_0];rfl)),S⟩
 intro k E aj aM ak;obtain⟨hk,U,V⟩:=aj;have X:Lim W H (qfI T (qku p1 p2) H k):=(hW▸hH▸qn8 T p1 p2 (qi p2) k hr rfl)
 generalize Y:(qfI T (qku p1 p2) H k)=j at U X;have al:=X;have aN:=al.all;obtain⟨Z,am,an,ao,ap,aq,ar,au,aO,aP,aQ,aR,f⟩:=U;obtain⟨aS,aT⟩:=f.g1.head;have aU:Df t Z:=fun e=>f.t1 (e▸f.g1.inF);refine ys<|yx 2<|yc (rL (8+8*(k:Int)) 60) (fun av=>?_) fun av=>?_
 ·refine yk<|ys<|qa<|q7<|yp 5 [] (.i (8+8*(k:Int)) (60) .z)<|yo (qaH (28+((8+8*(k:Int)):Int).toNat*1) [.bool true] none (by kernel_rfl) f.blk (by rw[qcj];simp only[iy,iM];omega) ?_);intro aw G ax;replace G:Blk aw t (TS.vals ({j with tabs:=(fun i=>if i=((8+8*(k:Int)):Int).toNat then true else j.tabs i)}:TS) Z am (.slice an ao ap) (.slice aq ar au)) qas:=Blk.to G (qg0 j _ _ _ _ _ (by omega) _);have I:=zt (Ch.refl (· =t) E) ax (fun i hi (h:i=t)=>h);refine yE (nB (nS ?_));refine q7<|yp 3 [] (.q6 ((8+8*(k:Int))+8) .z) ?_;have ay:=f.scalar (T':=({j with tabs:=(fun i=>if i=((8+8*(k:Int)):Int).toNat then true else j.tabs i)}:TS)) I G rfl rfl rfl rfl;have a0:=Ch.on V I Q;have az:=ay.pk2 I hI a0;refine yE (fun a ha=>ak (k+1) _ ⟨(by omega),(TermAt.eq' az (by subst Y;show qfI T (qku p1 p2) H (k+1)=_;unfold qfI;rw[qn7])),a0⟩ (by show 7-(k+1)<7-k;omega) a (by rw[show(8+8*((k+1:Nat):Int))=(8+8*(k:Int))+8 by omega];exact ha.kp [0,6]))
 have aA:k=7:=by omega
 refine qm (eS (qd (qb (qT ?_))));have r:=Ch.on V (Ch.refl (· =t) E) Q;have aB:=f.pk2 (Ch.refl (· =t) E) hI r;subst Y;subst aA hH hW;refine⟨rfl,TermAt.mono aB (fun b hb=>?_) (fun b hb=>?_),?_⟩
 ·rcases hb with hb|hb
  ·rw[C]at hb;exact hb.imp id fun h=>h.imp id fun h=>⟨h.1,by have:=zzs r;omega⟩
  exact .inr (.inr ⟨by have:=zzs D;omega,hb.2⟩)
 ·have hz:=zzs r;have aV:=zzs D;rcases hb with rfl|hb|hb
  ·exact⟨by omega,ht7⟩
  ·have:=hP.2.2 b hb;exact⟨by omega,this.2.1⟩
  exact⟨hb.2,by omega⟩
 refine zt (D.mono fun i _ h=> .inl h) r fun i hi h=>?_;rw[C]at h;exact h.imp id fun h=>h.elim id fun h=>by omega
theorem qjz {s u:ByteArray}(h:(s.toList==u.toList)=true):s=u:=by
 have c:=eq_of_beq h;rw[Go.ByteArray.toList_eq,Go.ByteArray.toList_eq]at c;obtain⟨⟨a⟩⟩:=s;obtain⟨⟨b⟩⟩:=u;have:a=b:=c;rw[this]
theorem mark40 {s:ByteArray}(h:(s.toList==(⟨#[40]⟩:ByteArray).toList)=true):s.size=1/\bt s 0=40:=by
 rw[qjz h];exact⟨rfl,rfl⟩
theorem mark41 {s:ByteArray}(h:(s.toList==(⟨#[41]⟩:ByteArray).toList)=true):s.size=1/\bt s 0=41:=by
 rw[qjz h];exact⟨rfl,rfl⟩
theorem start_at {w:World}{t:Nat}{W H:Int}{T:TS}{F:Nat->Prop}(hA:TermAt w t T F)(hT:LT w)(hL:Lim W H T)(p1 p2:Int):
  CP 66 [.pointer (some ⟨t,0,none⟩),.int .i64 p1,.int .i64 p2].toArray w fun e w'=>e= .returned (.tuple #[])/\TermAt w' t (startT T p1 p2) (more F w w')/\Ch F w w':=by
 obtain⟨g,o,ba,bn,bc,pa,pn,pc,a,c,FB,FP,hI⟩:=hA;have hB:Blk w t (T.valsG (.pointer (some ⟨g,0,none⟩)) (.pointer (some ⟨o,0,none⟩)) (.slice ba bn bc) (.slice pa pn pc)) qas:=by rw[valsG_eq];exact hI.blk
 have hF:∀b,(b=t\/FP b)->F b:=fun b h=>h.elim (fun h=>h▸hI.inF.1) (hI.inF.2.2.2.2 b);refine(qjy hB ⟨hI.ps,hI.pz,fun b hb=>⟨hI.lt b (hF b (.inr hb)),hI.hi b (hF b (.inr hb)),fun e=>hI.tP (e▸hb)⟩⟩ (hI.hi t hI.inF.1) hT hL.rp p1 p2).mono fun e w' ⟨he,hA',hc⟩=>⟨he,hA'.mono (fun b hb=>?_) (hI.moreOk hc.size),hc.mono fun b _ h=>hF b h⟩
 rcases hb with hb|hb|hb
 ·exact .inl (hF b (.inl hb))
 ·exact .inl (hF b (.inr hb))
 ·exact .inr hb
theorem up_lim {w:World}{t:Nat}{W H:Int}{T:TS}{F:Nat->Prop}(hA:TermAt w t T F)(hT:qah w)(hL:Lim W H T):CP 165 [pX t].toArray w fun e w'=>e= .returned (.tuple #[])/\TermAt w' t (upT T) (more F w w')/\Ch F w w':=
  up_at hA hT (by have:=hL.cu;have:=hL.hb;omega)
theorem esc_at {w:World}{t:Nat}{W H:Int}{T:TS}{F:Nat->Prop}(hA0:TermAt w t T F)(hT:LT w)(hL:Lim W H T){ao:Option Nat}{an cc:Nat}{ac:Ac}(hV:IntsAt w .i64 ao an cc ac.params (fun b=> ¬F b/\b<w.heap.size))(hV8:an<=8)(hVb:∀x∈ac.params,0<=x/\x<=9999):CP 131 [pX t,.agg #[iX ac.kind,rX ac.rune,uX ac.last,.string ac.marks,.slice (ao.map at0) an cc,.string ac.text]].toArray w fun e w'=>e= .returned (.tuple #[])/\TermAt w' t (qh6 T ac) (more F w w')/\Ch F w w':=by
 have h:=Sep.startT hA0;have hg:=Gz.of hA0;have hM:=hL;have P:=hM.all;refine yA Tryz.func131 rfl<|ysr<|yo (zN [iX ac.kind,rX ac.rune,uX ac.last,.string ac.marks,.slice (ao.map at0) an cc,.string ac.text] 190 h fun u Q h=>?_);refine ye<|ys<|ysr<|yp 4 [] (.l (h.c 1 3) .z)<|yw [7] (rY ((ac.marks).toList==((⟨#[40]⟩:ByteArray)).toList)) (fun f=>?_) fun f=>?_
 ·have r:=f;obtain⟨s,v⟩:=mark40 f;refine yz 8<|yct<|ys<|ysr<|yp 4 [] (.l (h.c 1 2) .z)<|yw [15] (rE ac.last 48) (fun j=>?_) fun j=>?_
  ·refine yz 8<|yct<|zD [11] h fun u h=>yd (uL 0 11) [4] (.l (h.c 1 3) (.i 0 ((ac.marks).size) (.p (q:=InR .u8 ((bt ac.marks 0)-40)) (in8 (by omega) (by omega)) (.l (h.c 1 2) (.i ((bt ac.marks 0)-40) (2) .z))))) ?_;have hz:(((bt ac.marks 0)-40):Int).toNat=0:=by omega
   refine yK 11 (zTi 0 ({T with draw0:=((ac.last:Int)==48)}:TS) (92+(((bt ac.marks 0)-40):Int).toNat*1) [.bool ((ac.last:Int)==48)] h (fun _ _ _ _=>by rw[hz];kernel_rfl) fun u h=>?_);refine q8<|yDe (nS ?_);refine q9 (rS (yR0 ?_));refine h.tfin hg ?_;simp only[qh6,qbf, *,↓reduceIte,Int.reduceEq,Int.reduceLT,Int.reduceLE,sB]
  refine yp 8 [] (.l (h.c 1 2) .z)<|ye<|yc (rE ac.last 66) (fun d=>?_) fun d=>?_
  ·refine zD [11] h fun u h=>yd (uL 0 11) [4] (.l (h.c 1 3) (.i 0 ((ac.marks).size) (.p (q:=InR .u8 ((bt ac.marks 0)-40)) (in8 (by omega) (by omega)) (.l (h.c 1 2) (.i ((bt ac.marks 0)-40) (2) .z))))) ?_;have hz:(((bt ac.marks 0)-40):Int).toNat=0:=by omega
   refine yK 11 (zTi 0 ({T with draw0:=((ac.last:Int)==48)}:TS) (92+(((bt ac.marks 0)-40):Int).toNat*1) [.bool ((ac.last:Int)==48)] h (fun _ _ _ _=>by rw[hz];kernel_rfl) fun u h=>?_);refine q8<|yDe (nS ?_);refine q9 (rS (yR0 ?_));refine h.tfin hg ?_;simp only[qh6,qbf, *,↓reduceIte,Int.reduceEq,Int.reduceLT,Int.reduceLE,sB]
  refine yk<|q9 (rS (yR0 ?_));refine h.tfin hg ?_;simp only[qh6,qbf, *,↓reduceIte,Int.reduceEq,Int.reduceLT,Int.reduceLE,sB]
 have r:=f;refine yp 8 [] (.l (h.c 1 3) .z)<|ye<|yc (rY ((ac.marks).toList==((⟨#[41]⟩:ByteArray)).toList)) (fun g=>?_) fun g=>?_
 ·have j:=g;obtain⟨s,v⟩:=mark41 g;refine ys<|ysr<|yp 4 [] (.l (h.c 1 2) .z)<|yw [15] (rE ac.last 48) (fun d=>?_) fun d=>?_
  ·refine yz 8<|yct<|zD [11] h fun u h=>yd (uL 0 11) [4] (.l (h.c 1 3) (.i 0 ((ac.marks).size) (.p (q:=InR .u8 ((bt ac.marks 0)-40)) (in8 (by omega) (by omega)) (.l (h.c 1 2) (.i ((bt ac.marks 0)-40) (2) .z))))) ?_;have hz:(((bt ac.marks 0)-40):Int).toNat=1:=by omega
   refine yK 11 (zTi 0 ({T with draw1:=((ac.last:Int)==48)}:TS) (92+(((bt ac.marks 0)-40):Int).toNat*1) [.bool ((ac.last:Int)==48)] h (fun _ _ _ _=>by rw[hz];kernel_rfl) fun u h=>?_);refine q8<|yDe (nS ?_);refine q9 (rS (yR0 ?_));refine h.tfin hg ?_;simp only[qh6,qbf, *,↓reduceIte,Int.reduceEq,Int.reduceLT,Int.reduceLE,sB]
  refine yp 8 [] (.l (h.c 1 2) .z)<|ye<|yc (rE ac.last 66) (fun k=>?_) fun k=>?_
  ·refine zD [11] h fun u h=>yd (uL 0 11) [4] (.l (h.c 1 3) (.i 0 ((ac.marks).size) (.p (q:=InR .u8 ((bt ac.marks 0)-40)) (in8 (by omega) (by omega)) (.l (h.c 1 2) (.i ((bt ac.marks 0)-40) (2) .z))))) ?_;have hz:(((bt ac.marks 0)-40):Int).toNat=1:=by omega
   refine yK 11 (zTi 0 ({T with draw1:=((ac.last:Int)==48)}:TS) (92+(((bt ac.marks 0)-40):Int).toNat*1) [.bool ((ac.last:Int)==48)] h (fun _ _ _ _=>by rw[hz];kernel_rfl) fun u h=>?_);refine q8<|yDe (nS ?_);refine q9 (rS (yR0 ?_));refine h.tfin hg ?_;simp only[qh6,qbf, *,↓reduceIte,Int.reduceEq,Int.reduceLT,Int.reduceLE,sB]
  refine yk<|q9 (rS (yR0 ?_));refine h.tfin hg ?_;simp only[qh6,qbf, *,↓reduceIte,Int.reduceEq,Int.reduceLT,Int.reduceLE,sB]
 have j:=g;refine yk<|ys<|ysr<|yp 3 [] (.l (h.c 1 3) .z)<|ye<|yc (rN (rY ((ac.marks).toList==(ByteArray.empty).toList))) (fun d=>?_) fun d=>?_
 ·refine q9 (rS (yR0 ?_));refine h.tfin hg ?_;simp only[qh6,qbf, *,↓reduceIte,Int.reduceEq,Int.reduceLT,Int.reduceLE,sB]
 refine yk<|ysr<|yp 2 [] (.l (h.c 1 2) .z)<|ye<|qa<|yx 2<|yc (rE ac.last 55) (fun k=>?_) fun k=>?_
 ·refine q7<|yp 7 [] (.a (h.ts 0 2 8) .z)<|yo (zT 0 ({T with saved:=T.cursor}:TS) h fun u h=>?_);refine yE (nB (qT ?_));refine h.tfin hg ?_;simp only[qh6,qbf, *,↓reduceIte,Int.reduceEq,Int.reduceLT,Int.reduceLE,sB]
 refine yx 2<|yc (rE ac.last 56) (fun A=>?_) fun A=>?_
 ·refine q7<|yp 7 [] (.a (h.ts 0 10 8) .z)<|yo (zT 0 ({T with cursor:=T.saved}:TS) h fun u h=>?_);refine yE (nB (qT ?_));refine h.tfin hg ?_;simp only[qh6,qbf, *,↓reduceIte,Int.reduceEq,Int.reduceLT,Int.reduceLE,sB]
 refine yx 2<|yc (rE ac.last 68) (fun B=>?_) fun B=>?_
 ·refine ysr<|yq 1<|yo (yQ (h.met 0 fun F hA hF=>qd4 hA (h.tb hg hT.tb) hL) fun u h=>?_);refine ye<|q7<|yq 4 ?_;have n:Lim W H (qbt T):=(qbL hL)
  generalize C:(qbt T)=T21 at h n;have D:=n;have R:=D.all;refine yo (zT 0 ({T21 with cursor:=(Cur.mk T21.cursor.x T21.cursor.y false T21.cursor.sty)}:TS) h fun u h=>?_);refine yE (nB (qT ?_));subst C;refine h.tfin hg ?_;simp only[qh6,qbf, *,↓reduceIte,Int.reduceEq,Int.reduceLT,Int.reduceLE,sB]
 refine yx 2<|yc (rE ac.last 69) (fun E=>?_) fun E=>?_
 ·refine ysr<|yq 1<|yo (yQ (h.met 0 fun F hA hF=>qd4 hA (h.tb hg hT.tb) hL) fun u h=>?_);refine ye<|q7 ?_;have m:Lim W H (qbt T):=(qbL hL)
  generalize G:(qbt T)=I at h m;have J:=m;have S:=J.all;refine yp 6 [] (.l (h.tc 0 3) .z)<|yo (yQ (h.met 0 fun F hA hF=>qaG hA (h.tb hg hT.tb) m (0) (I.cursor.y)) fun u h=>?_);refine yE (nB (qT ?_));subst G;refine h.tfin hg ?_;simp only[qh6,qbf, *,↓reduceIte,Int.reduceEq,Int.reduceLT,Int.reduceLE,sB]
 refine yx 2<|yc (rE ac.last 77) (fun K=>?_) fun K=>?_
 ·refine ysr<|yq 1<|yo (yQ (h.met 0 fun F hA hF=>up_lim hA (h.tb hg hT.tb) hL) fun u h=>?_);refine ye<|q7<|yq 4 ?_;have o:Lim W H (upT T):=(lim_up hL)
  generalize L:(upT T)=T25 at h o;have M:=o;have U:=M.all;refine yo (zT 0 ({T25 with cursor:=(Cur.mk T25.cursor.x T25.cursor.y false T25.cursor.sty)}:TS) h fun u h=>?_);refine yE (nB (qT ?_));subst L;refine h.tfin hg ?_;simp only[qh6,qbf, *,↓reduceIte,Int.reduceEq,Int.reduceLT,Int.reduceLE,sB]
 refine yx 2<|yc (rE ac.last 72) (fun N=>?_) fun N=>?_
 ·refine zD [9] h fun u h=>yd (uL 0 9) [] (.l (h.tc 0 2) (.i T.cursor.x (60) .z))<|yK 9 (zTi 0 ({T with tabs:=(fun i=>if i=(T.cursor.x:Int).toNat then true else T.tabs i)}:TS) (28+(T.cursor.x:Int).toNat*1) [.bool true] h (fun _ _ _ _=>qg0 T _ _ _ _ _ (by omega) _) fun u h=>?_);refine q8<|yDe (nB (qT ?_));refine h.tfin hg ?_;simp only[qh6,qbf, *,↓reduceIte,Int.reduceEq,Int.reduceLT,Int.reduceLE,sB]
 refine yx 2<|yc (rE ac.last 99) (fun O=>?_) fun O=>?_
 ·obtain⟨V,X,h⟩:=h.opn 0;refine zD [15] h fun u h=>yd (uL 0 15) [] (.l (h.tg 0) (.l (h.gw 0).1 (.l (h.tg 0) (.l (h.gw 0).2 .z))))<|yK 15 (yQ (h.met 0 fun F hA hF=>start_at hA (h.lt hg hT) hL (T.grid.w) (T.grid.h)) fun u h=>?_);refine q8<|yDe (nB (qT ?_));refine h.tfin hg ?_;simp only[qh6,qbf, *,↓reduceIte,Int.reduceEq,Int.reduceLT,Int.reduceLE,sB]
 refine ql (nB (qT ?_));refine h.tfin hg ?_;simp only[qh6,qbf, *,↓reduceIte,Int.reduceEq,Int.reduceLT,Int.reduceLE,sB]
theorem act_at {w:World}{t:Nat}{W H:Int}{T:TS}{F:Nat->Prop}(hA0:TermAt w t T F)(hT:LT w)(hL:Lim W H T){ao:Option Nat}{an cc:Nat}{ac:Ac}(hV:IntsAt w .i64 ao an cc ac.params (fun b=> ¬F b/\b<w.heap.size))(hV8:an<=8)(hVb:∀x∈ac.params,0<=x/\x<=9999)(hat:ac.text.size<=1000):CP 110 [pX t,.agg #[iX ac.kind,rX ac.rune,uX ac.last,.string ac.marks,.slice (ao.map at0) an cc,.string ac.text]].toArray w fun e w'=>e= .returned (.tuple #[])/\TermAt w' t (qek T ac) (more F w w')/\Ch F w w':=by
 have h:=Sep.startT hA0;have hg:=Gz.of hA0;have hM:=hL;have p:=hM.all;refine yA Tryz.func110 rfl<|ysr<|yo (zN [iX ac.kind,rX ac.rune,uX ac.last,.string ac.marks,.slice (ao.map at0) an cc,.string ac.text] 190 h fun u q h=>?_);refine ye<|ysr<|yp 2 [] (.l (h.c 1 0) .z)<|ye<|qa<|yx 2<|yc (rE ac.kind 0) (fun d=>?_) fun d=>?_
 ·refine q7<|yp 3 [] (.l (h.c 1 1) .z)<|yo (yQ (h.met 0 fun F hA hF=>print_at hA (h.tb hg hT.tb) hL (ac.rune)) fun u h=>?_);refine yE (nB (qT ?_));refine h.tfin hg ?_;simp only[qek,qlH,d,↓reduceIte,Int.reduceEq,Int.reduceLT,Int.reduceLE,sB]
 refine yx 2<|yc (rE ac.kind 1) (fun f=>?_) fun f=>?_
 ·refine q7<|yp 3 [] (.l (h.c 1 2) .z)<|yo (yQ (h.met 0 fun F hA hF=>exec_at hA (h.tb hg hT.tb) hL (ac.last)) fun u h=>?_);refine yE (nB (qT ?_));refine h.tfin hg ?_;simp only[qek,qlH,d,f,↓reduceIte,Int.reduceEq,Int.reduceLT,Int.reduceLE,sB]
 refine yx 2<|yc (rE ac.kind 2) (fun g=>?_) fun g=>?_
 ·refine q7<|yp 2 [] (.a (h.cs 1 0 6) .z)<|yo (yQ (h.met 0 fun F hA hF=>esc_at hA (h.lt hg hT) hL (h.intsF hV hF) hV8 hVb) fun u h=>?_);refine yE (nB (qT ?_));refine h.tfin hg ?_;simp only[qek,qlH,d,f,g,↓reduceIte,Int.reduceEq,Int.reduceLT,Int.reduceLE,sB]
 refine yx 2<|yc (rE ac.kind 3) (fun i=>?_) fun i=>?_
 ·refine q7<|yp 2 [] (.a (h.cs 1 0 6) .z)<|yo (yQ (h.met 0 fun F hA hF=>csi_at hA (h.lt hg hT) hL (h.intsF hV hF) hV8 hVb) fun u h=>?_);refine yE (nB (qT ?_));refine h.tfin hg ?_;simp only[qek,qlH,d,f,g,i,↓reduceIte,Int.reduceEq,Int.reduceLT,Int.reduceLE,sB]
 refine yx 2<|yc (rE ac.kind 4) (fun k=>?_) fun k=>?_
 ·refine ysr<|yp 5 [] (.l (h.c 1 5) .z)<|yw [34] (rM 2 ((ac.text).size:Int)) (fun m=>?_) fun m=>?_
  ·refine yp 10 [] (.l (h.c 1 5) (.j 2 ((ac.text).size) .z))<|yw [39] (rY ((((ac.text).extract 0 (2:Int).toNat)).toList==((⟨#[48,59]⟩:ByteArray)).toList)) (fun n=>?_) fun n=>?_
   ·refine yz 16<|yct<|q7<|yp 6 [] (.l (h.c 1 5) (.j 2 ((ac.text).size) .z))<|yo (zT 0 ({T with title:=((ac.text).extract (2:Int).toNat (ac.text).size)}:TS) h fun u h=>?_);refine yE (nB (qT ?_));refine h.tfin hg ?_;simp only[qek,qlH,d,f,g,i,k,m,n,↓reduceIte,Int.reduceEq,Int.reduceLT,Int.reduceLE,sB]
   refine yp 16 [] (.l (h.c 1 5) (.j 2 ((ac.text).size) .z))<|ye<|yc (rY ((((ac.text).extract 0 (2:Int).toNat)).toList==((⟨#[50,59]⟩:ByteArray)).toList)) (fun o=>?_) fun o=>?_
   ·refine q7<|yp 6 [] (.l (h.c 1 5) (.j 2 ((ac.text).size) .z))<|yo (zT 0 ({T with title:=((ac.text).extract (2:Int).toNat (ac.text).size)}:TS) h fun u h=>?_);refine yE (nB (qT ?_));refine h.tfin hg ?_;simp only[qek,qlH,d,f,g,i,k,m,n,o,↓reduceIte,Int.reduceEq,Int.reduceLT,Int.reduceLE,sB]
   refine ql (nB (qT ?_));refine h.tfin hg ?_;simp only[qek,qlH,d,f,g,i,k,m,n,o,↓reduceIte,Int.reduceEq,Int.reduceLT,Int.reduceLE,sB]
  refine yz 16<|ycf<|ql (nB (qT ?_));refine h.tfin hg ?_;simp only[qek,qlH,d,f,g,i,k,m,↓reduceIte,Int.reduceEq,Int.reduceLT,Int.reduceLE,sB]
 refine ql (nB (qT ?_));refine h.tfin hg ?_;simp only[qek,qlH, *,↓reduceIte,Int.reduceEq,Int.reduceLT,Int.reduceLE,sB]
def qjA (T:TS)(c:Int):TS:=(qbl T.parser c).2.foldl qek {T with parser:=(qbl T.parser c).1}
def qds (T:TS)(s:ByteArray):Nat->TS
 |0=>T
 |k+1=>qjA (qds T s k) (bt s (k:Int))
def qgx (T:TS)(s:ByteArray):TS:=qds T s s.size
structure AcOk (a:Ac):Prop where
 n:a.params.length<=8
 b:∀x∈a.params,0<=x/\x<=9999
 t:a.text.size<=40
theorem qeN {k r l:Int}{m u:ByteArray}(h:u.size<=40):AcOk ⟨k,r,l,m,[],u⟩:=⟨by simp,(fun x hx=>by cases hx),h⟩
theorem qbx (s:Int):(atP s).lim:=⟨qkK,(by decide:(0:Nat)<=2),(by decide:(0:Nat)<=40),(by decide:(0:Nat)<=8),fun x hx=>by cases hx⟩
def qio (r:PS×List Ac):Prop:=r.1.lim/\ ∀a∈r.2,AcOk a
theorem qar {p:PS}(h:p.lim):qio (p,[]):=⟨h,fun a ha=>by cases ha⟩
theorem qeO {p:PS}{a:Ac}(h:p.lim)(ha:AcOk a):qio (p,[a]):=⟨h,fun b hb=>by obtain rfl:=iD.1 hb;exact ha⟩
theorem qeP (l:List Int):∀a∈l.map acP,AcOk a:=fun a ha=>by
 obtain⟨r,_,rfl⟩:=j5.1 ha
 exact qeN (by decide)
theorem qlL {l m:List Ac}(h:∀a∈l,AcOk a)(h':∀a∈m,AcOk a):∀a∈l++m,AcOk a:=fun a ha=>(iC.1 ha).elim (h a) (h' a)
theorem qv {P:PS×List Ac->Prop}{c:Prop}[Decidable c]{a b:PS×List Ac}(h1:c->P a)(h2:¬c->P b):P (if c then a else b):=by
 by_cases h:c
 ·rw[if_pos h];exact h1 h
 ·rw[if_neg h];exact h2 h
theorem qhE {p:PS}(h:p.lim)(s:Int):qio (qy p s):=qeO (qbx 0) (qeN h.t)
theorem qn9 {p:PS}(h:p.lim)(c:Int):qio (qt p c):=by
 unfold qt;refine qv (fun _=>qar ?_) fun _=>qv (fun _=>qar (qbx 3)) fun _=>qv (fun _=>qar (qbx 5)) fun _=>qv (fun _=>qar (qbx 6)) fun _=>qeO (qbx 0) (qeN (by decide));split
 ·exact⟨h.u,by show(p.marks++qf [c]).size<=2;rw[iT,qb2];omega,h.t,h.n,h.b⟩
 ·exact⟨h.u,h.m,h.t,h.n,h.b⟩
theorem qna {p:PS}(h:p.lim)(c:Int):qio (qR p c):=by
 unfold qR;refine qv (fun _=>qar ⟨h.u,h.m,h.t,h.n,h.b⟩) fun _=>qv (fun _=>qhE h 5) fun _=>qv (fun _=>qar (qbx 0)) fun _=>qv (fun a=>qar ⟨h.u,h.m,?_,h.n,h.b⟩) fun _=>qar h;show(p.text++qf [c]).size<=40;rw[iT,qb2];omega
theorem someL_bd {l:List Int}(h:∀x∈l,0<=x/\x<=9999):∀x∈qbg l,0<=x/\x<=9999:=fun x hx=>by
 unfold qbg at hx
 split at hx
 ·simp at hx;omega
 ·exact h x hx
theorem fed_csi {p:PS}(h:p.lim)(c:Int):qio (qbC p c):=by
 have d:=qgn p.params;have a:=someL_bd h.b;have e:=qlF h.b;have f:=h.n;unfold qbC;refine qv (fun hc=>qar ⟨h.u,h.m,h.t,?_,?_⟩) fun _=>qv (fun _=>qar ?_) fun _=>qv (fun _=>qv (fun _=>qar (qbx 0)) fun _=>qeO (qbx 0) ⟨h.n,h.b,(by decide:(0:Nat)<=40)⟩) fun _=>qv (fun _=>qar ⟨h.u,h.m,h.t,h.n,h.b⟩) fun g=>qar ⟨h.u,?_,h.t,h.n,h.b⟩
 ·show(qfk _ _).length<=8
  unfold qfk;rw[iR];omega
 ·intro x hx
  have hx':x∈(qbg p.params).set ((qbg p.params).length-1) (min (10*qgo (qbg p.params)+(c-48)) 9999):=hx;rcases jp hx' with hx|rfl
  ·exact a x hx
  ·omega
 ·split
  ·refine⟨h.u,h.m,h.t,?_,?_⟩
   ·show(qbg p.params++[0]).length<=8
    rw[hZ];simp only[iy,iM];omega
   ·intro x hx
    rcases iC.1 hx with hx|hx
    ·exact a x hx
    ·simp at hx;omega
  ·exact⟨h.u,h.m,h.t,by show(qbg p.params).length<=8;omega,a⟩
 ·show(p.marks++qf [c]).size<=2
  have:=h.m;rw[iT,qb2];omega
theorem qlM {u:US}(h:u.ok){c:Int}(hc:0<=c/\c<=255):(qdh u c).1.ok:=by
 have hb:∀x∈u.pend++[c],0<=x/\x<=255:=fun x hx=>(iC.1 hx).elim (h.pend x) (fun h=>by simp at h;omega);exact qoA (fun x hx=>qdp hb 4 x (iS hx)) (by rw[im];omega)
theorem qnb {p:PS}(h:p.lim){c:Int}(hc:0<=c/\c<=255):qio (qS p c):=by
 unfold qS;refine qv (fun _=>qv (fun _=>⟨qbx 1,qeP _⟩) fun _=>qv (fun _=>⟨⟨qkK,h.m,h.t,h.n,h.b⟩,qlL (qeP _) fun a ha=>by obtain rfl:=iD.1 ha;exact qeN (by decide)⟩) fun _=>⟨⟨qlM qkK hc,h.m,h.t,h.n,h.b⟩,qlL (qeP _) (qeP _)⟩) fun _=>⟨⟨qlM h.u hc,h.m,h.t,h.n,h.b⟩,qeP _⟩
theorem qjB {p:PS}(h:p.lim){c:Int}(hc:0<=c/\c<=255):qio (qaS p c):=by
 unfold qaS;exact qv (fun _=>qnb h hc) fun _=>qv (fun _=>qna h c) fun _=>qv (fun _=>qar (qbx 0)) fun _=>qv (fun _=>qar (qbx 1)) fun _=>qv (fun _=>qeO h (qeN (by decide))) fun _=>qv (fun _=>qar h) fun _=>qv (fun _=>fed_csi h c) fun _=>qn9 h c
theorem qip {p:PS}(h:p.lim){c:Int}(hc:0<=c/\c<=255):qio (qbl p c):=by
 unfold qbl;exact qv (fun _=>qv (fun _=>qhE h _) fun _=>qjB (qbx 1) hc) fun _=>qjB h hc
theorem fed_len {p:PS}(h:p.lim)(c:Int):(qbl p c).2.length<=8:=by
 have hf:(qbb p.utf).length<=3:=by unfold qbb;rw[ir];have:=h.u.n;omega
 have hu:=qeJ h.u c;have d:=qeJ qkK c;have a:∀(q:PS) (s:Int),(qy q s).2.length<=8:=fun _ _=>by simp[qy]
 have e:∀q:PS,(qt q c).2.length<=8:=fun q=>by
  unfold qt;exact qv (P:=fun r=>r.2.length<=8) (fun _=>by simp) fun _=>qv (P:=fun r=>r.2.length<=8) (fun _=>by simp) fun _=>qv (P:=fun r=>r.2.length<=8) (fun _=>by simp) fun _=>qv (P:=fun r=>r.2.length<=8) (fun _=>by simp) fun _=>by simp
 have f:∀q:PS,(qR q c).2.length<=8:=fun q=>by
  unfold qR;exact qv (P:=fun r=>r.2.length<=8) (fun _=>by simp) fun _=>qv (P:=fun r=>r.2.length<=8) (fun _=>a _ _) fun _=>qv (P:=fun r=>r.2.length<=8) (fun _=>by simp) fun _=>qv (P:=fun r=>r.2.length<=8) (fun _=>by simp) fun _=>by simp
 have g:∀q:PS,(qbC q c).2.length<=8:=fun q=>by
  unfold qbC;exact qv (P:=fun r=>r.2.length<=8) (fun _=>by simp) fun _=>qv (P:=fun r=>r.2.length<=8) (fun _=>by simp) fun _=>qv (P:=fun r=>r.2.length<=8) (fun _=>qv (P:=fun r=>r.2.length<=8) (fun _=>by simp) fun _=>by simp) fun _=>qv (P:=fun r=>r.2.length<=8) (fun _=>by simp) fun _=>by simp
 have i:(qS p c).2.length<=8:=by
  unfold qS;exact qv (P:=fun r=>r.2.length<=8) (fun _=>qv (P:=fun r=>r.2.length<=8) (fun _=>by simp;omega) fun _=>qv (P:=fun r=>r.2.length<=8) (fun _=>by simp;omega) fun _=>by simp;omega) fun _=>by simp;omega
 have b:∀q:PS,(qS q c).2.length<=8->(qaS q c).2.length<=8:=fun q hq=>by
  unfold qaS;exact qv (P:=fun r=>r.2.length<=8) (fun _=>hq) fun _=>qv (P:=fun r=>r.2.length<=8) (fun _=>f _) fun _=>qv (P:=fun r=>r.2.length<=8) (fun _=>by simp) fun _=>qv (P:=fun r=>r.2.length<=8) (fun _=>by simp) fun _=>qv (P:=fun r=>r.2.length<=8) (fun _=>by simp) fun _=>qv (P:=fun r=>r.2.length<=8) (fun _=>by simp) fun _=>qv (P:=fun r=>r.2.length<=8) (fun _=>g _) fun _=>e _
 have j:(qS (atP 1) c).2.length<=8:=by
  have hz:(qbb (atP 1).utf).length<=3:=by simp[qbb,atP]
  have hv:(qdh (atP 1).utf c).2.length<=4:=d;unfold qS;exact qv (P:=fun r=>r.2.length<=8) (fun _=>qv (P:=fun r=>r.2.length<=8) (fun _=>by simp;omega) fun _=>qv (P:=fun r=>r.2.length<=8) (fun _=>by simp;omega) fun _=>by simp;omega) fun _=>by simp;omega
 unfold qbl;exact qv (P:=fun r=>r.2.length<=8) (fun _=>qv (P:=fun r=>r.2.length<=8) (fun _=>a _ _) fun _=>b _ j) fun _=>b _ i
theorem TermIn.newPs {w w':World}{t g o:Nat}{ba:Option Addr}{bn bc:Nat}{pa:Option Addr}{pn pc:Nat}{T:TS}{F F1 F2 FB FP K:Nat->Prop}(h:TermIn w t g o ba bn bc pa pn pc T F F1 F2 FB FP)(hc:Ch (fun j=>j=t) w w'){p':PS}{po:Option Nat}{pn' pc':Nat}
  (hb:Blk w' t (({T with parser:=p'}:TS).vals g o (.slice ba bn bc) (.slice (po.map at0) pn' pc')) qas) (hp:IntsAt w' .i64 po pn' pc' p'.params K) (hK:∀b,po=some b->FP b\/(¬F b/\gTop<=b)):
  TermIn w' t g o ba bn bc (po.map at0) pn' pc' ({T with parser:=p'}:TS) (fun b=>F b\/po=some b) F1 F2 FB (fun b=>FP b\/po=some b):=by
 obtain⟨f,hL,hl⟩:=h.bk;have a:∀(X:Nat->Prop),(∀b,X b->F b)->(∀b,X b-> ¬FP b)-> ∀b,X b-> ¬(FP b\/po=some b):=fun X i d b hx hy=>hy.elim (d b hx) fun e=>(hK b e).elim (d b hx) fun c=>c.1 (i b hx);exact
 {blk:=hb
  g1:=h.g1.ch hc fun b hb e=>h.t1 (e▸hb)
  g2:=h.g2.ch hc fun b hb e=>h.t2 (e▸hb)
  bk:=⟨f,hL.ch hc fun b hb e=>h.tB (e▸hb),hl⟩
  bcap:=h.bcap
  ps:=⟨hp.1,hp.2.1,(fun e=>hp.2.2.1 (by cases po<;>simp_all)),fun ad e=>by
   cases po with
   |none=>cases e
   |some b=>cases e;exact .inr rfl⟩
  pz:=⟨po,rfl⟩
  bz:=h.bz
  t1:=h.t1,t2:=h.t2,tB:=h.tB
  tP:=a (fun b=>b=t) (fun b e=>e▸h.inF.1) (fun b e=>e▸h.tP) t rfl
  a12:=h.a12,a1B:=h.a1B,a2B:=h.a2B
  a1P:=a F1 h.inF.2.1 h.a1P
  a2P:=a F2 h.inF.2.2.1 h.a2P
  inF:=⟨.inl h.inF.1,fun b hb=> .inl (h.inF.2.1 b hb),fun b hb=> .inl (h.inF.2.2.1 b hb),fun b hb=> .inl (h.inF.2.2.2.1 b hb),fun b hb=>hb.imp (h.inF.2.2.2.2 b) id⟩
  lt:=fun b hb=>hb.elim (fun hb=>ic (h.lt b hb) hc.size) fun e=>(hp.2.2.2 b e).2
  hi:=fun b hb=>hb.elim (h.hi b) fun e=>(hK b e).elim (fun hb=>h.hi b (h.inF.2.2.2.2 b hb)) fun c=>c.2}
theorem TermIn.ints {w:World}{t g o:Nat}{ba:Option Addr}{bn bc:Nat}{pa:Option Addr}{pn pc:Nat}{T:TS}{F F1 F2 FB FP:Nat->Prop}(h:TermIn w t g o ba bn bc pa pn pc T F F1 F2 FB FP):
  ∃po:Option Nat,pa=po.map at0/\IntsAt w .i64 po pn pc T.parser.params (fun b=>po=some b)/\ ∀b,po=some b->FP b:=by
 obtain⟨po,rfl⟩:=h.pz;have hf:∀b,po=some b->FP b:=fun b e=>by subst e;exact h.ps.2.2.2 _ rfl
 refine⟨po,rfl,⟨h.ps.1,h.ps.2.1,fun e=>h.ps.2.2.1 (by rw[e];rfl),fun b e=>⟨e,h.lt b (h.inF.2.2.2.2 b (hf b e))⟩⟩,hf⟩
theorem ActsAt.at {w:World}{b n c:Nat}{l:List Ac}{K:Nat->Prop}(h:ActsAt w (some b) n c l K){j:Nat}(hj:j<n):∃ac ao an cc,l[j]? =some ac/\IntsAt w .i64 ao an cc ac.params K/\
  w.cell? ⟨b,(0+(j:Int).toNat*6),none⟩=some (.int .i64 ac.kind)/\w.cell? ⟨b,(0+(j:Int).toNat*6)+1,none⟩=some (.int .i32 ac.rune)/\w.cell? ⟨b,(0+(j:Int).toNat*6)+2,none⟩=some (.int .u8 ac.last)/\
  w.cell? ⟨b,(0+(j:Int).toNat*6)+3,none⟩=some (.string ac.marks)/\w.cell? ⟨b,(0+(j:Int).toNat*6)+4,none⟩=some (.slice (ao.map at0) an cc)/\w.cell? ⟨b,(0+(j:Int).toNat*6)+5,none⟩=some (.string ac.text):=by
 obtain⟨d,u,y,f⟩:=h.ex;have hl:=h.len;have g:j<l.length:=by omega
 have m:j<d.length:=by omega
 obtain⟨ao,an,cc,e,hv⟩:=f j g m;have x:∀v∈d,v.length=6:=fun v hv=>by
  obtain⟨i,hi,rfl⟩:=List.getElem_of_mem hv;exact(f i (by omega) hi).len
 have a:∀k,k<6-> ∀v,(l[j].vals (.slice (ao.map at0) an cc))[k]? =some v->w.cell? ⟨b,0+(j*6+k),none⟩=some v:=fun k hk v hv=>qcq u.rd _ _ (by rw[qmW x m hk,e];exact hv);refine⟨l[j],ao,an,cc,ig g,hv,?_⟩;rw[ik,iJ];have o:=a 0 (by decide) _ rfl;have p:=a 1 (by decide) _ rfl;have q:=a 2 (by decide) _ rfl;have r:=a 3 (by decide) _ rfl;have s:=a 4 (by decide) _ rfl;have t:=a 5 (by decide) _ rfl;simp only[iJ,Nat.add_zero]at o p q r s t;exact⟨o,p,q,r,s,t⟩
theorem qoO {l:List Ac}{j:Nat}{ac:Ac}(h:l[j]? =some ac)(T:TS):(l.take (j+1)).foldl qek T=qek ((l.take j).foldl qek T) ac:=by
 obtain⟨hj,rfl⟩:=iq.1 h;rw[j2 hj,List.foldl_append];rfl
theorem qoP {F F2:Nat->Prop}{w u v:World}(h:∀b,F2 b->more F w u b)(h1:w.heap.size<=u.heap.size)(h2:u.heap.size<=v.heap.size):∀b,more F2 u v b->more F w v b:=fun b hb=>hb.elim (fun hb=>(h b hb).imp id fun h=>⟨h.1,by omega⟩) fun hb=> .inr ⟨by omega,hb.2⟩
theorem ch_in {F F2:Nat->Prop}{w u v:World}(hc:Ch F w u)(h:∀b,F2 b->more F w u b)(hc2:Ch F2 u v):Ch F w v:=hc.trans hc2 fun i hi h2=>(h i h2).elim id fun h=>by omega
theorem qiq {W H:Int}{T:TS}(h:Lim W H T)(l:List Ac):Lim W H (l.foldl qek T):=by
 induction l generalizing T with
 |nil=>exact h
 |cons a l ih=>exact ih (qoK h a)
theorem qfn {W H:Int}{T:TS}(h:Lim W H T)(p:PS):Lim W H {T with parser:=p}:=h.flags rfl rfl rfl rfl rfl rfl rfl rfl rfl
theorem lim_feed {W H:Int}{T:TS}(h:Lim W H T)(c:Int):Lim W H (qjA T c):=qiq (qfn h _) _
theorem qjC {W H:Int}{T:TS}(h:Lim W H T)(s:ByteArray)(k:Nat):Lim W H (qds T s k):=by
 induction k with
 |zero=>exact h
 |succ k ih=>exact lim_feed ih _
theorem qL {c:Prop}[Decidable c]{a b:TS}{p:PS}(h1:a.parser=p)(h2:b.parser=p):(if c then a else b).parser=p:=by
 split<;>assumption
theorem qjD (T:TS)(n:Int):(qbv T n).parser=T.parser:=qL rfl rfl
theorem qir (T:TS)(x y:Int):(qeD T x y).parser=T.parser:=qL rfl rfl
theorem qe7 (T:TS):(qbt T).parser=T.parser:=qL (qjD T 1) (qL rfl rfl)
theorem upT_p (T:TS):(upT T).parser=T.parser:=qL rfl (qL rfl rfl)
theorem printT_p (T:TS)(r:Int):(qeE T r).parser=T.parser:=by
 have hA:∀T,(qbP T).parser=T.parser:=fun T=>qL (qe7 _) rfl;have hB:∀T n,(qbB T n).parser=T.parser:=fun T n=>qL (qL (qe7 _) rfl) rfl;have hC:∀T n,(qc7 T n).parser=T.parser:=fun T n=>qL rfl rfl;have hE:∀T n,(qgm T n).parser=T.parser:=fun T n=>qL rfl rfl;unfold qeE;rw[hE];exact(hC _ _).trans ((hB _ _).trans (hA _))
theorem execT_p (T:TS)(c:Int):(qdo T c).parser=T.parser:=
 qL rfl (qL rfl (qL (qe7 T) (qL (qe7 T) (qL (qe7 T) (qL rfl (qL rfl (qL rfl rfl)))))))
theorem escT_p (T:TS)(a:Ac):(qh6 T a).parser=T.parser:=
 qL (qL rfl rfl) (qL (qL rfl rfl) (qL rfl (qL rfl (qL rfl (qL (qe7 T) (qL (qe7 T) (qL (upT_p T) (qL rfl (qL rfl rfl)))))))))
theorem qis (T:TS)(s:ByteArray):(qe2 T s).parser=T.parser:=qL rfl rfl
theorem tellT_p (T:TS)(c k:Int):(qcR T c k).parser=T.parser:=qL rfl (qL rfl (qL rfl (qL (qis _ _) (qL (qis _ _) (qL (qis _ _) rfl)))))
theorem eraseN_p (T:TS)(k x y:Int)(s:Sty)(a:Int)(j:Nat):(qeL T k x y s a j).parser=T.parser:=by
 induction j with
 |zero=>rfl
 |succ j ih=>exact(qL rfl (qL rfl (qL rfl rfl)):(qbc (qeL T k x y s a j) k x y s (a+(j:Int))).parser=_).trans ih
theorem qit (T:TS)(k a b:Int):(qgs T k a b).parser=T.parser:=eraseN_p _ _ _ _ _ _ _
theorem editT_p (T:TS)(c n:Int)(l:List Int):(qbm T c n l).parser=T.parser:=
 qL rfl (qL rfl (qL rfl (qL (qit _ _ _ _) (qL (qL (qit _ _ _ _) (qit _ _ _ _)) (qL (qL rfl rfl) (qL (qL rfl rfl) (qL (qjD _ _) (qL rfl (tellT_p _ _ _)))))))))
theorem plainT_p (T:TS)(c:Int)(l:List Int):(qav T c l).parser=T.parser:=
 qL rfl (qL rfl (qL rfl (qL rfl (qL rfl (qL (qir _ _ _) (qL (qir _ _ _) (qL rfl (qL (qL (qir _ _ _) rfl) (editT_p _ _ _ _)))))))))
theorem turnT_p (T:TS)(b:Bool):(qkL T b).parser=T.parser:=qL rfl (qL rfl rfl)
theorem modeT_p (T:TS)(n:Int)(b:Bool):(qbn T n b).parser=T.parser:=qL (qir _ _ _) (qL rfl (qL rfl (qL (turnT_p _ _) rfl)))
theorem modes_p (T:TS)(l:List Int)(b:Bool):(l.foldl (fun T n=>qbn T n b) T).parser=T.parser:=by
 induction l generalizing T with
 |nil=>rfl
 |cons n l ih=>exact(ih _).trans (modeT_p _ _ _)
theorem csiT_p (T:TS)(a:Ac):(qlG T a).parser=T.parser:=qL (plainT_p _ _ _) (qL (modes_p _ _ _) rfl)
theorem actT_p (T:TS)(a:Ac):(qek T a).parser=T.parser:=qL (printT_p _ _) (qL (execT_p _ _) (qL (escT_p _ _) (qL (csiT_p _ _) (qL (qL rfl rfl) rfl))))
theorem acts_p (T:TS)(l:List Ac):(l.foldl qek T).parser=T.parser:=by
 induction l generalizing T with
 |nil=>rfl
 |cons a l ih=>exact(ih _).trans (actT_p _ _)
theorem qoQ (T:TS)(c:Int):(qjA T c).parser=(qbl T.parser c).1:=acts_p _ _
theorem qdQ {T:TS}(h:T.parser.lim)(s:ByteArray)(k:Nat):(qds T s k).parser.lim:=by
 induction k with
 |zero=>exact h
 |succ k ih=>exact(qoQ _ _)▸(qip ih (qd2 s _)).1
def zeroT:TS:={grid:=⟨0,0,[]⟩,other:=⟨0,0,[]⟩,cursor:=cur0,saved:=cur0,away:=cur0,top:=0,bot:=0,tabs:=fun _=>false,wrap:=false,origin:=false,insert:=false,hidden:=false,draw0:=false,draw1:=false,shift:=false,alt:=false,title:=ByteArray.empty,back:=[],parser:=⟨0,⟨0,0,0,0⟩,ByteArray.empty,[],ByteArray.empty,0⟩,reply:=ByteArray.empty}
theorem qeQ (p1 p2:Int)(w:World)(hT:LT w)(h7:gTop<=w.heap.size):CP 31 [iX p1,iX p2].toArray w fun e w'=> ∃t,e= .returned (pX t)/\TermAt w' t (startT zeroT p1 p2) (fun b=>w.heap.size<=b/\b<w'.heap.size)/\Ch (fun _=>False) w w':=by
 refine yA Tryz.func31 rfl<|yx 1<|ysr<|yq 1<|yo (yN [.pointer none,.pointer none,iX 0,iX 0,xF,xF,xF,xF,iX 0,iX 0,iX 0,iX 0,xF,xF,xF,xF,iX 0,iX 0,iX 0,iX 0,xF,xF,xF,xF,iX 0,iX 0,iX 0,iX 0,xF,xF,xF,xF,xF,xF,xF,xF,xF,xF,xF,xF,xF,xF,xF,xF,xF,xF,xF,xF,xF,xF,xF,xF,xF,xF,xF,xF,xF,xF,xF,xF,xF,xF,xF,xF,xF,xF,xF,xF,xF,xF,xF,xF,xF,xF,xF,xF,xF,xF,xF,xF,xF,xF,xF,xF,xF,xF,xF,xF,xF,xF,xF,xF,xF,xF,xF,xF,oX,nX,iX 0,uX 0,uX 0,uX 0,iX 0,oX,nX,oX,iX 0,oX] 96 fun d a j p k l=>?_);have q:=zn j (zm w);have c:=zu (zm w) l iZ;refine yz 3<|ysr<|yq 3 ?_;have f:Blk d a (zeroT.valsG (.pointer none) (.pointer none) (nX) (nX)) qas:=Blk.to k (by kernel_rfl);have r:=zzs c;have m:PsAt d a none 0 0 zeroT.parser.params (fun _=>False):=⟨⟨Rd.nil _ _,rfl,fun _=>rfl,fun ad e=>by cases e⟩,⟨none,rfl⟩,fun b h=>h.elim⟩
 have n:=qaN (Up.ch c) hT (fun _ h=>h.elim);refine yo (yQ (qjy f m (by omega) n (by decide) p1 p2) ?_);rintro s ⟨o,g⟩;refine ye<|yx 2<|q9 (yR1 (pX a) ?_);refine⟨a,rfl,TermAt.mono o (fun b hb=>?_) (fun b hb=>⟨hb.2,by omega⟩),zt (Up.ch c) g (fun i hi h=>?_)⟩
 ·have hz:=zzs g;rcases hb with rfl|hb|hb
  ·exact⟨by omega,by have:=f.lt;omega⟩
  ·exact hb.elim
  exact⟨by omega,hb.2⟩
 rcases h with rfl|h
 ·omega
 exact h
theorem qoR {X:PS×List Ac}{w:World}{po:Option Nat}{pn pc:Nat}{p:PS}{c:Int}(hX:qbl p c=X)(hP:IntsAt w .i64 po pn pc p.params (fun b=>po=some b))(hcB:0<=c/\c<=255)(hU:qcG w)(hp:p.lim)(hn8:pn<=8):CP 109 [.agg (PS.vals p (.slice (po.map at0) pn pc)).toArray,uX c].toArray w fun e w'=>Fed w w' e po X.1 X.2:=by
 subst hX;exact feed_any hP c hcB hU hp hn8
theorem qlN {w:World}{t:Nat}{W H:Int}{T:TS}{F:Nat->Prop}(hA0:TermAt w t T F)(hT:LT w)(hL:Lim W H T)(hp:T.parser.lim)(s:ByteArray)(hs:s.size<=1000000):CP 83 [pX t,.string s].toArray w fun e w'=>e= .returned (.tuple #[])/\TermAt w' t (qgx T s) (more F w w')/\Ch F w w':=by
 obtain⟨g,o,ba,bn,bc,pa,pn,pc,F1,r,FB,FP,hI⟩:=hA0;have hA0:TermAt w t T F:=⟨g,o,ba,bn,bc,pa,pn,pc,F1,r,FB,FP,hI⟩
 have l:=hI.inF.1;obtain⟨gv,cA⟩:=hI.g1.head;have cB:Df t g:=fun e=>hI.t1 (e▸hI.g1.inF);obtain⟨⟨cC,cD⟩,⟨cE,cF⟩,cG,cH⟩:=hI.g1.ok;have bf:=hL;have cI:=bf.all;refine yA Tryz.func83 rfl<|yx 3<|qa ?_;have az:=hI.cht (Ch.refl (· =t) w);have bg:=hI.pk1 hI az;refine qV [0,1,9,10] (f':=[(0,pX t),(1,.string s),(9,iX ((s).size:Int)),(10,iX 0)])<|qx (σ:=Nat) (fun k=>[(0,pX t),(1,.string s),(9,iX ((s).size:Int)),(10,iX (k:Int))]) (fun k u=>k<=s.size/\(TermAt u t (qds T s k) (more F w u)/\Ch F w u)) (fun k=>s.size-k) 0 rfl ?_ ?_
 ·exact⟨il _,(TermAt.eq' bg rfl),az⟩
 intro k ah bh cJ aA;obtain⟨hk,aB,ai⟩:=bh;have bi:=qaN ai hT (fun b hb=>hI.hi b hb);have aj:Lim W H (qds T s k):=(qjC hL s k)
 generalize U:(qds T s k)=y at aB aj;have bj:=aj;have cK:=bj.all;obtain⟨ak,bk,bl,bm,bo,cL,cM,cN,cO,cP,cQ,cR,C⟩:=aB;obtain⟨cS,cT⟩:=C.g1.head;have cU:Df t ak:=fun e=>C.t1 (e▸C.g1.inF);obtain⟨bp,bq,br,V⟩:=C.ints;subst bq;refine yx 1<|ys<|yc (rL (k:Int) ((s).size:Int)) (fun bs=>?_) fun bs=>?_
 ·refine yk<|ys<|qa<|yx 2<|yx 1<|ys<|yD [8,14] fun D cV Y=>?_;have N:=zt (Ch.refl (· =t) ah) Y eZ;have aC:=qaN Y bi (fun _ h=>h.elim);have Z:=C.blk.ch Y id;have aD:=br.ch Y iZ;refine yd (uL 0 8) [] (.a (Z.cs 98 9) (.i (k:Int) ((s).size) .z)) ?_;have cW:=C.scalar (T':=y) N Z rfl rfl rfl rfl;have aE:=C.scalar (T':=y) N Z rfl rfl rfl rfl;have O:=Ch.on ai N l;have cX:=aE.pk2 N hI O;have bu:=aE.mono (F':=more F w D) (fun b hb=>hb.elim .inl (fun x=> .inr ⟨x.1,by have:=zzs N;omega⟩)) (hI.moreOk O.size);obtain⟨d,a0⟩:∃X,qbl y.parser (bt s (k:Int))=X:=⟨_,rfl⟩
  have a1:(y.parser).lim:=(U▸qdQ hp s k)
  have aF:=qip a1 (qd2 s (k:Int));have bv:=fed_len a1 (bt s (k:Int));rw[a0]at aF bv;refine yK 8 (yC ((qoR a0 (p:=y.parser) aD (qd2 s _) aC.ut a1 (by have:=a1.n;have:=aD.2.1;omega))) ?_);rintro _ al ⟨E,aG,aH,bw,c,a2,rfl,aI,bx,P⟩;refine⟨_,rfl,?_⟩;have cY:=zzs P;have bz:=qaN P aC (fun _ h=>h.elim);have bA:=Z.ch P id;refine q8<|yd (uL 9 5) [] .z ?_;have a3:=bu.same P iZ;refine yK 14 (qaH 98 [iX d.1.state,uX d.1.utf.b0,uX d.1.utf.b1,uX d.1.utf.b2,iX d.1.utf.n,.string d.1.marks,.slice (E.map at0) aG aH,.string d.1.text,iX d.1.within] none (by kernel_rfl) bA (qc4 (by kernel_rfl)) ?_);intro q am A;replace am:Blk q t (TS.vals ({y with parser:=d.1}:TS) ak bk (.slice bl bm bo) (.slice (E.map at0) aG aH)) qas:=Blk.to am (by kernel_rfl);have ap:∀b,E=some b->bp=some b\/(D.heap.size<=b/\b<al.heap.size):=fun b e=>(aI.2.2.2 b e).1;have G:∀b,more F w D b->b<D.heap.size/\gTop<=b:=hI.moreOk O.size;have cZ:∀b,E=some b-> ¬b=t:=fun b e h=>(ap b e).elim (fun x=>a3.tP (h▸V b x)) (fun x=>by have:=(G t (.inl l)).1;omega);have bB:=aI.ch A (fun b hb (h:b=t)=>hb.elim (fun x=>a3.tP (h▸V b x)) (fun x=>by have:=(G t (.inl l)).1;omega));have f:=a3.newPs A (p':=d.1) am bB (fun b e=>(ap b e).imp (fun h=>V b h) (fun h=>⟨fun x=>by have:=(G b x).1;omega,by have:=(G t (.inl l)).2;have:=(G t (.inl l)).1;omega⟩))
  obtain⟨r,aq⟩:∃F':Nat->Prop,F'=fun b=>more F w D b\/E=some b:=⟨_,rfl⟩
  rw[<-aq]at f;have a4:∀b,r b->more F w q b:=fun b hb=>by
   rw[aq]at hb;rcases hb with hb|hb
   ·exact hb.imp id fun h=>⟨h.1,by have:=zzs A;omega⟩
   rcases ap b hb with h|h
   ·exact(a3.inF.2.2.2.2 b (V b h)).imp id fun h=>⟨h.1,by have:=zzs A;omega⟩
   exact .inr ⟨by have:=zzs O;omega,by have:=zzs A;omega⟩
  have J:Ch F w q:=zt (zt O P eZ) A (fun i _ h=>h▸l);have ar:∀b,((D.heap.size<=b/\b<al.heap.size)/\E≠some b)->b<q.heap.size:=fun b hb=>by have:=zzs A;omega
  have aJ:∀b,((D.heap.size<=b/\b<al.heap.size)/\E≠some b)-> ¬r b:=fun b hb h=>by
   rw[aq]at h;rcases h with h|h
   ·have:=(G b h).1;omega
   exact hb.2 h
  have bC:=qaN A bz (fun b (h:b=t)=>h▸hI.hi t l);have a5:=bx.ch A (fun b hb (h:b=t)=>by have:=(G t (.inl l)).1;omega);have Q:r t:=f.inF.1;have aK:TermAt q t ({y with parser:=d.1}:TS) r:=⟨_,_,_,_,_,_,_,_,_,_,_,_,f⟩
  have au:Lim W H ({y with parser:=d.1}:TS):=qfn aj _;generalize aL:({y with parser:=d.1}:TS)=T68 at f aK au;obtain⟨d0,d1⟩:=f.g1.head;have d2:Df t ak:=fun e=>f.t1 (e▸f.g1.inF);refine q8<|yd [15] [] .z<|yDe (nS ?_);refine yx 3<|qa ?_;rcases bw with _|ab
  ·have av:d.2.length=c:=a5.len;have d3:c=0:=by
    obtain⟨d4,h1,x,h3⟩:=a5.ex;exact(h1.2.2.2.1 rfl).1
   have aM:=f.cht (Ch.refl (· =t) q);have bE:=f.pk1 f aM;refine qV [0,1,9,10,27,28,29] (f':=[(0,pX t),(1,.string s),(9,iX ((s).size:Int)),(10,iX (k:Int)),(27,.slice none c a2),(28,iX (c:Int)),(29,iX 0)])<|qx (σ:=Nat) (fun j=>[(0,pX t),(1,.string s),(9,iX ((s).size:Int)),(10,iX (k:Int)),(27,.slice none c a2),(28,iX (c:Int)),(29,iX (j:Int))]) (fun j v=>j<=c/\(TermAt v t ((d.2.take j).foldl qek T68) (more r q v)/\Ch r q v)) (fun j=>c-j) 0 rfl ?_ ?_
   ·exact⟨il _,(TermAt.eq' bE rfl),aM⟩
   intro j a6 bF d6 d7;obtain⟨hj,aN,bG⟩:=bF;have aw:Lim W H ((d.2.take j).foldl qek T68):=(qiq au _)
   generalize bH:((d.2.take j).foldl qek T68)=T83 at aN aw;have bI:=aw;have d8:=bI.all;obtain⟨bJ,d9,da,db,dc,dd,de,df,dg,dh,di,dj,a7⟩:=aN;obtain⟨dk,dl⟩:=a7.g1.head;have dm:Df t bJ:=fun e=>a7.t1 (e▸a7.g1.inF);refine yx 1<|ys<|yc (rL (j:Int) (c:Int)) (fun bK=>?_) fun bK=>?_
   ·exfalso;omega
   have ax:j=c:=by omega
   have a8:=Ch.on bG (Ch.refl (· =t) a6) Q;have bL:=a7.pk2 (Ch.refl (· =t) a6) f a8;have aO:=bL.mono (qoP a4 (zzs J) (zzs a8)) (hI.moreOk (ip (zzs J) (zzs a8)));have bM:=ch_in J a4 a8;have aP:Lim W H T83:=aw;generalize bN:T83=T92 at aO aP;have bO:=aP;have dn:=bO.all;obtain⟨bP,dp,dq,dr,ds,dt,du,dv,dw,dx,dy,dz,a9⟩:=aO;obtain⟨dA,dB⟩:=a9.g1.head;have dC:Df t bP:=fun e=>a9.t1 (e▸a9.g1.inF);refine qm (eS (qd (qb (nB (nS ?_)))));refine q7<|yp 2 [] (.q6 ((k:Int)+1) .z) ?_;have aQ:=Ch.on bM (Ch.refl (· =t) a6) l;have bQ:=a9.pk2 (Ch.refl (· =t) a6) hI aQ;refine yE (fun a ha=>aA (k+1) _ ⟨(by omega),(TermAt.eq' bQ (by subst bN;subst bH;subst aL;subst U;show qjA _ _=_;unfold qjA;rw[a0,ax,<-av,je])),aQ⟩ (by show s.size-(k+1)<s.size-k;omega) a (ha.kp [0,1,9,10]))
  have av:d.2.length=c:=a5.len;have aR:=f.cht (Ch.refl (· =t) q);have bR:=f.pk1 f aR;refine qV [0,1,9,10,27,28,29] (f':=[(0,pX t),(1,.string s),(9,iX ((s).size:Int)),(10,iX (k:Int)),(27,.slice (some ⟨ab,0,none⟩) c a2),(28,iX (c:Int)),(29,iX 0)])<|qx (σ:=Nat) (fun j=>[(0,pX t),(1,.string s),(9,iX ((s).size:Int)),(10,iX (k:Int)),(27,.slice (some ⟨ab,0,none⟩) c a2),(28,iX (c:Int)),(29,iX (j:Int))]) (fun j v=>j<=c/\(TermAt v t ((d.2.take j).foldl qek T68) (more r q v)/\Ch r q v)) (fun j=>c-j) 0 rfl ?_ ?_
  ·exact⟨il _,(TermAt.eq' bR rfl),aR⟩
  intro j I bS dD bT;obtain⟨hj,aS,K⟩:=bS;have bU:=qaN K bC (fun b hb=>f.hi b hb);have bV:=a5.ch K (fun b hb h=>aJ b hb h);have R:Lim W H ((d.2.take j).foldl qek T68):=(qiq au _)
  generalize aT:((d.2.take j).foldl qek T68)=L at aS R;have bW:=R;have dE:=bW.all;obtain⟨bX,dF,dG,dH,dI,dJ,dK,dL,dM,dN,dO,dP,B⟩:=aS;obtain⟨dQ,dR⟩:=B.g1.head;have dS:Df t bX:=fun e=>B.t1 (e▸B.g1.inF);refine yx 1<|ys<|yc (rL (j:Int) (c:Int)) (fun bY=>?_) fun bY=>?_
  ·obtain⟨ac,ao,an,cc,aU,bZ,c0,c1,c2,c3,c4,c5⟩:=bV.at (j:=j) (by omega);have ay:=aF.2 ac (jC aU);refine yk<|ys<|qa<|ysr<|yp 2 [] (.i (j:Int) (c) (.m c0 (.m c1 (.m c2 (.m c3 (.m c4 (.m c5 (.e .z))))))))<|yo (yN [iX 0,rX 0,uX 0,oX,nX,oX] 190 fun dT S c6 dU c7 aa=>?_);have dV:I.heap.size<=S:=by rw[c6];exact zzs (Ch.refl (· =t) I)
   have c8:=zt (Ch.refl (· =t) I) aa eZ;have c9:=qaN aa bU (fun _ h=>h.elim);have ca:=B.blk.ch aa id;have cb:=bZ.ch aa iZ;refine yo (yT [iX ac.kind,rX ac.rune,uX ac.last,.string ac.marks,.slice (ao.map at0) an cc,.string ac.text] c7 fun aV cd ad=>?_);have M:=zt c8 ad (fun i hi (h:i=S)=>by omega);have ce:=qaN ad c9 (fun b (h:b=S)=>by have:=hI.hi t l;have:=B.blk.lt;omega);have aW:=ca.ch ad (fun(h:t=S)=>by have:=B.blk.lt;omega);have cf:=cb.ch ad (fun b hb (h:b=S)=>by have:=ar b hb;have:=zzs K;omega);refine ye<|q7<|yp 2 [] (.a (cd.cs 0 6) .z) ?_;have cg:=B.scalar (T':=L) M aW rfl rfl rfl rfl;have aX:=Ch.on K M Q;have dW:=cg.pk2 M f aX;have aY:=cf.mono (K':=fun b=> ¬more r q aV b/\b<aV.heap.size) (fun b hb=>⟨fun h=>h.elim (aJ b hb) (fun h=>by have:=ar b hb;omega),by have:=ar b hb;have:=zzs aX;omega⟩);have ci:=B.scalar (T':=L) M aW rfl rfl rfl rfl;have aZ:=Ch.on K M Q;have cj:=ci.pk2 M f aZ;refine yo (yQ (act_at cj ce R aY (by have:=ay.n;have:=aY.2.1;omega) ay.b (by have:=ay.t;omega)) ?_);rintro b3 ⟨ck,cl⟩;obtain⟨b4,cm⟩:=TermAt.next aK aZ cl ck;have b5:Lim W H (qek L ac):=(qoK R ac)
   generalize cn:(qek L ac)=T150 at b4 b5;have co:=b5;have dX:=co.all;obtain⟨cp,dY,dZ,e0,e1,e2,e3,e4,e5,e6,e7,e8,ae⟩:=b4;obtain⟨e9,ea⟩:=ae.g1.head;have eb:Df t cp:=fun e=>ae.t1 (e▸ae.g1.inF);refine yE (nB (nS ?_));refine q7<|yp 2 [] (.q6 ((j:Int)+1) .z) ?_;have b6:=Ch.on cm (Ch.refl (· =t) b3) Q;have cq:=ae.pk2 (Ch.refl (· =t) b3) f b6;refine yE (fun a ha=>bT (j+1) _ ⟨(by omega),(TermAt.eq' cq (by subst cn;subst aT;exact qoO aU _)),b6⟩ (by show c-(j+1)<c-j;omega) a (ha.kp [0,1,9,10,27,28,29]))
  have ax:j=c:=by omega
  have af:=Ch.on K (Ch.refl (· =t) I) Q;have cr:=B.pk2 (Ch.refl (· =t) I) f af;have b7:=cr.mono (qoP a4 (zzs J) (zzs af)) (hI.moreOk (ip (zzs J) (zzs af)));have ct:=ch_in J a4 af;have b8:Lim W H L:=R;generalize cu:L=T160 at b7 b8;have cv:=b8;have ec:=cv.all;obtain⟨cw,ed,ee,ef,eg,eh,ei,ej,ek,el,em,en,ag⟩:=b7;obtain⟨eo,ep⟩:=ag.g1.head;have er:Df t cw:=fun e=>ag.t1 (e▸ag.g1.inF);refine qm (eS (qd (qb (nB (nS ?_)))));refine q7<|yp 2 [] (.q6 ((k:Int)+1) .z) ?_;have b9:=Ch.on ct (Ch.refl (· =t) I) l;have cx:=ag.pk2 (Ch.refl (· =t) I) hI b9;refine yE (fun a ha=>aA (k+1) _ ⟨(by omega),(TermAt.eq' cx (by subst cu;subst aT;subst aL;subst U;show qjA _ _=_;unfold qjA;rw[a0,ax,<-av,je])),b9⟩ (by show s.size-(k+1)<s.size-k;omega) a (ha.kp [0,1,9,10]))
 have cy:k=s.size:=by omega
 refine qm (eS (qd (qb (qT ?_))));have bb:=Ch.on ai (Ch.refl (· =t) ah) l;have cz:=C.pk2 (Ch.refl (· =t) ah) hI bb;subst U;subst cy;exact⟨rfl,cz,bb⟩
theorem qiu (a b:Cel):(((a.rune:Int)==b.rune)&&(((a.sty.bold==b.sty.bold)&&((a.sty.under==b.sty.under)&&((a.sty.turned==b.sty.turned)&&(((a.sty.fore:Int)==b.sty.fore)&&(((a.sty.back:Int)==b.sty.back)&&true)))))&&true))=(a==b):=qod a b
def Fine (T:TS):Prop:=(∃W H,Lim W H T)/\T.parser.lim
theorem qhF (p1 p2:Int):Fine (startT zeroT p1 p2):=⟨⟨_,_,qeM zeroT p1 p2 (by decide)⟩,qbx 0⟩
theorem qnc {T:TS}(h:Fine T)(s:ByteArray):Fine (qgx T s):=by
 obtain⟨⟨W,H,h⟩,hp⟩:=h;exact⟨⟨W,H,qjC h s _⟩,qdQ hp s _⟩
structure Sys (w0 w:World)(bs:List (Nat×List Value×TypeId))(ts:List (Nat×TS)):Prop where
 ch:Ch (fun _=>False) w0 w
 lt:LT w
 top:gTop<=w0.heap.size
 blk:∀(i:Nat) x,bs[i]? =some x->Blk w x.1 x.2.1 x.2.2
 lo:∀(i:Nat) x,bs[i]? =some x->w0.heap.size<=x.1
 df:∀(i j:Nat) x y,bs[i]? =some x->bs[j]? =some y->i≠j->x.1≠y.1
 tm:∃F:Nat->Nat->Prop,(∀(i:Nat) x,ts[i]? =some x->TermAt w x.1 x.2 (F i)/\Fine x.2)/\(∀i j,i≠j-> ∀b,F i b-> ¬F j b)/\(∀i b,F i b->w0.heap.size<=b/\b<w.heap.size)/\ ∀(i j:Nat) x,bs[i]? =some x-> ¬F j x.1
section
variable {w0 w w':World}{bs:List (Nat×List Value×TypeId)}{ts:List (Nat×TS)}
theorem Sys.start (h:LT w)(h7:gTop<=w.heap.size):Sys w w [] []:=⟨Ch.refl _ _,h,h7,fun i x e=>by simp at e,fun i x e=>by simp at e,fun i j x y e=>by simp at e,fun _ _=>False,fun i x e=>by simp at e,fun _ _ _ _ h=>h.elim,fun _ _ h=>h.elim,fun _ _ _ _ h=>h.elim⟩
theorem Sys.same (h:Sys w0 w bs ts)(hc:Ch (fun _=>False) w w'):Sys w0 w' bs ts:=by
 obtain⟨F,a,d,c,f⟩:=h.tm;exact⟨h.ch.trans hc (fun _ _ h=>h),qaN hc h.lt (fun _ h=>h.elim),h.top,fun i x e=>(h.blk i x e).ch hc (fun h=>h),h.lo,h.df,F,fun i x e=>⟨(a i x e).1.ch hc (fun _ _ h=>h),(a i x e).2⟩,d,fun i b hb=>⟨(c i b hb).1,ic (c i b hb).2 hc.size⟩,f⟩
theorem Sys.box (h:Sys w0 w bs ts)(hc:Ch (fun _=>False) w w'){b:Nat}{vs:List Value}{ty:TypeId}(hb:Blk w' b vs ty)(hz:w.heap.size<=b):Sys w0 w' (bs++[(b,vs,ty)]) ts:=by
 have h':=h.same hc;obtain⟨F,c,d,f,m⟩:=h.tm;obtain⟨F',o,p,q,r⟩:=h'.tm;have a:∀i x,(bs++[(b,vs,ty)])[i]? =some x->bs[i]? =some x\/(i=bs.length/\x=(b,vs,ty)):=fun i x e=>by
  rcases iN i bs.length with hi|hi
  ·rw[iw hi]at e;exact .inl e
  ·rw[iF hi]at e
   rcases jm (i-bs.length)with k|k
   ·rw[k]at e;exact .inr ⟨by omega,(ia e).symm⟩
   ·rw[jn (by simp only[iy,iM];omega)]at e;cases e
 refine⟨h'.ch,h'.lt,h'.top,fun i x e=>?_,fun i x e=>?_,fun i j x y e e' n=>?_,F,fun i x e=>⟨(c i x e).1.ch hc (fun _ _ h=>h),(c i x e).2⟩,d,fun i b hb=>⟨(f i b hb).1,ic (f i b hb).2 hc.size⟩,fun i j x e=>?_⟩
 ·rcases a i x e with e|⟨_,rfl⟩
  ·exact h'.blk i x e
  ·exact hb
 ·rcases a i x e with e|⟨_,rfl⟩
  ·exact h.lo i x e
  ·have:=h.ch.size;dsimp only;omega
 ·rcases a i x e with l|⟨c,rfl⟩
  ·rcases a j y e' with g|⟨d,rfl⟩
   ·exact h.df i j x y l g n
   ·have:=(h.blk i x l).lt;dsimp only;omega
  ·rcases a j y e' with g|⟨d,rfl⟩
   ·have:=(h.blk j y g).lt;dsimp only;omega
   ·omega
 ·rcases a i x e with e|⟨_,rfl⟩
  ·exact m i j x e
  ·exact fun hf=>by have:=(f j b hf).2;omega
theorem Sys.set (h:Sys w0 w bs ts)(i:Nat){b:Nat}{vs vs':List Value}{ty:TypeId}(hi:bs[i]? =some (b,vs,ty))(hc:Ch (fun j=>j=b) w w')(hb:Blk w' b vs' ty):Sys w0 w' (bs.set i (b,vs',ty)) ts:=by
 obtain⟨F,d,l,f,g⟩:=h.tm;have c:=h.lo i _ hi;have m:i<bs.length:=(iq.1 hi).1;have a:∀j x,(bs.set i (b,vs',ty))[j]? =some x->(j=i/\x=(b,vs',ty))\/(j≠i/\bs[j]? =some x):=fun j x e=>by
  by_cases hj:j=i
  ·subst hj;rw[jq m]at e;exact .inl ⟨rfl,(ia e).symm⟩
  ·rw[jo (fun h=>hj h.symm)]at e;exact .inr ⟨hj,e⟩
 have nF:∀j,¬F j b:=fun j=>g i j _ hi;refine⟨h.ch.trans hc (fun k hk e=>by dsimp only at c;omega),qaN hc h.lt (fun k e=>by have:=h.top;dsimp only at c;omega),h.top,fun j x e=>?_,fun j x e=>?_,fun j k x y e e' n=>?_,F,fun j x e=>⟨(d j x e).1.ch hc (fun k hk e'=>nF j (e'▸hk)),(d j x e).2⟩,l,fun j k hk=>⟨(f j k hk).1,ic (f j k hk).2 hc.size⟩,fun j k x e=>?_⟩
 ·rcases a j x e with⟨_,rfl⟩|⟨hj,e⟩
  ·exact hb
  ·exact(h.blk j x e).ch hc (h.df j i x _ e hi hj)
 ·rcases a j x e with⟨_,rfl⟩|⟨hj,e⟩
  ·exact c
  ·exact h.lo j x e
 ·rcases a j x e with⟨p,rfl⟩|⟨hj,e⟩
  ·rcases a k y e' with⟨o,rfl⟩|⟨hk,e'⟩
   ·omega
   ·exact h.df i k (b,vs,ty) y hi e' (by omega)
  ·rcases a k y e' with⟨o,rfl⟩|⟨hk,e'⟩
   ·exact h.df j i x (b,vs,ty) e hi hj
   ·exact h.df j k x y e e' n
 ·rcases a j x e with⟨_,rfl⟩|⟨hj,e⟩
  ·exact nF k
  ·exact g j k x e
theorem Sys.pre {bs':List (Nat×List Value×TypeId)}(h:Sys w0 w (bs++bs') ts):Sys w0 w bs ts:=by
 obtain⟨F,b,c,d,f⟩:=h.tm;have a:∀(i:Nat) x,bs[i]? =some x->(bs++bs')[i]? =some x:=fun i x e=>by rw[iw (iq.1 e).1];exact e
 exact⟨h.ch,h.lt,h.top,fun i x e=>h.blk i x (a i x e),fun i x e=>h.lo i x (a i x e),fun i j x y e e'=>h.df i j x y (a i x e) (a j y e'),F,b,c,d,fun i j x e=>f i j x (a i x e)⟩
theorem Sys.new (h:Sys w0 w bs ts)(p1 p2:Int):CP 31 [.int .i64 p1,.int .i64 p2].toArray w fun e w'=> ∃t,e= .returned (.pointer (some ⟨t,0,none⟩))/\Sys w0 w' bs (ts++[(t,startT zeroT p1 p2)])/\Ch (fun _=>False) w w':=by
 refine(qeQ p1 p2 w h.lt (ip h.top h.ch.size)).mono fun e w' ⟨t,he,hA,hc⟩=>⟨t,he,?_,hc⟩
 obtain⟨F,d,g,c,k⟩:=h.tm;have h':=h.same hc;have hz:=hc.size;have n:=h.ch.size;have ht:TermAt w' t (startT zeroT p1 p2) (fun b=>w.heap.size<=b/\b<w'.heap.size):=hA;refine⟨h'.ch,h'.lt,h'.top,h'.blk,h'.lo,h'.df,fun i b=>if i=ts.length then w.heap.size<=b/\b<w'.heap.size else i<ts.length/\F i b,fun i x e=>?_,fun i j l b hb a=>?_,fun i b hb=>?_,fun i j x e hb=>?_⟩
 ·rcases iN i ts.length with hi|hi
  ·rw[iw hi]at e
   refine⟨?_,(d i x e).2⟩;have m:(fun b=>if i=ts.length then w.heap.size<=b/\b<w'.heap.size else i<ts.length/\F i b)=F i:=by
    funext b;rw[if_neg (by omega)];exact propext ⟨fun h=>h.2,fun h=>⟨hi,h⟩⟩
   show TermAt w' x.1 x.2 (fun b=>if i=ts.length then w.heap.size<=b/\b<w'.heap.size else i<ts.length/\F i b);rw[m];exact(d i x e).1.ch hc (fun _ _ h=>h)
  ·rw[iF hi]at e
   rcases jm (i-ts.length)with f|f
   ·rw[f]at e
    obtain rfl:=(ia e).symm;obtain rfl:i=ts.length:=by omega
    simp only[if_true];exact⟨ht,qhF p1 p2⟩
   ·rw[jn (by simp only[iy,iM];omega)]at e;cases e
 ·dsimp only at hb a
  split at hb
  ·split at a
   ·omega
   ·have:=(c j b a.2).2;omega
  ·split at a
   ·have:=(c i b hb.2).2;omega
   ·exact g i j l b hb.2 a.2
 ·dsimp only at hb
  split at hb
  ·omega
  ·have:=c i b hb.2;omega
 ·dsimp only at hb
  split at hb
  ·have:=(h.blk i x e).lt;omega
  ·exact k i j x e hb.2
theorem Sys.step (h:Sys w0 w bs ts){i t:Nat}{T T':TS}(hi:ts[i]? =some (t,T)){k:FuncId}{args:Array Value}{v:Value}
  (hk:∀F,TermAt w t T F->LT w->Fine T->CP k args w fun e w'=>e= .returned v/\TermAt w' t T' (more F w w')/\Ch F w w') (hf:Fine T->Fine T'):
  CP k args w fun e w'=>e= .returned v/\Sys w0 w' bs (ts.set i (t,T')):=by
 obtain⟨F,d,f,c,l⟩:=h.tm;have n:i<ts.length:=(iq.1 hi).1;refine(hk (F i) (d i _ hi).1 h.lt (d i _ hi).2).mono fun e w' ⟨he,hA,hc⟩=>⟨he,?_⟩
 have hz:=hc.size;refine⟨Ch.trans h.ch hc (fun b hb a=>?_),qaN hc h.lt (fun b hb=>by have:=c i b hb;have:=h.top;omega),h.top,fun j x e=>(h.blk j x e).ch hc (l j i x e),h.lo,h.df,fun j b=>if j=i then more (F i) w w' b else F j b,fun j x e=>?_,fun j k g b hb a=>?_,fun j b hb=>?_,fun j k x e hb=>?_⟩
 ·have:=(c i b a).1;omega
 ·by_cases hj:j=i
  ·subst hj
   rw[jq n]at e;obtain rfl:=(ia e).symm;simp only[if_true];exact⟨hA,hf (d j _ hi).2⟩
  ·rw[jo (fun h=>hj h.symm)]at e
   simp only[if_neg hj];exact⟨(d j x e).1.ch hc (fun b hb=>f j i hj b hb),(d j x e).2⟩
 ·dsimp only at hb a
  split at hb
  ·rename_i m
   subst m;rw[if_neg (fun h=>g h.symm)]at a;rcases hb with hb|hb
   ·exact f j k g b hb a
   ·have:=(c k b a).2;omega
  ·split at a
   ·rename_i m o
    subst o;rcases a with a|a
    ·exact f j k g b hb a
    ·have:=(c j b hb).2;omega
   ·exact f j k g b hb a
 ·dsimp only at hb
  have p:=h.ch.size;split at hb
  ·rcases hb with hb|hb
   ·have:=c i b hb;omega
   ·omega
  ·have:=c j b hb;omega
 ·dsimp only at hb
  split at hb
  ·rcases hb with hb|hb
   ·exact l j i x e hb
   ·have:=(h.blk j x e).lt;omega
  ·exact l j k x e hb
theorem Sys.look (h:Sys w0 w bs ts){k:FuncId}{args:Array Value}{v:Value}(hk:CP k args w (RQ v w)):CP k args w fun e w'=>e= .returned v/\Sys w0 w' bs ts:=
 hk.mono fun _ _ ⟨he,hc⟩=>⟨he,h.same hc⟩
theorem Sys.at (h:Sys w0 w bs ts){i t:Nat}{T:TS}(hi:ts[i]? =some (t,T)):∃F,TermAt w t T F:=by
 obtain⟨F,a,_⟩:=h.tm;exact⟨_,(a i _ hi).1⟩
theorem Sys.fine (h:Sys w0 w bs ts){i t:Nat}{T:TS}(hi:ts[i]? =some (t,T)):Fine T:=by
 obtain⟨F,a,_⟩:=h.tm;exact(a i _ hi).2
theorem Sys.cell (h:Sys w0 w bs ts){i t:Nat}{T:TS}(hi:ts[i]? =some (t,T))(c:Nat){v:Value}(hv:∀g o bk ps,(T.vals g o bk ps)[c]? =some v):w.cell? ⟨t,c,none⟩=some v:=by
 obtain⟨F,g,o,ba,bn,bc,pa,pn,pc,a,b,FB,FP,hI⟩:=h.at hi;exact(hI.blk.cell c).trans (hv _ _ _ _)
theorem Sys.grid (h:Sys w0 w bs ts){i t:Nat}{T:TS}(hi:ts[i]? =some (t,T)):∃g F,w.cell? ⟨t,0,none⟩=some (.pointer (some ⟨g,0,none⟩))/\GridAt w g T.grid F:=by
 obtain⟨F,g,o,ba,bn,bc,pa,pn,pc,a,b,FB,FP,hI⟩:=h.at hi;exact⟨g,a,(hI.blk.cell 0).trans rfl,hI.g1⟩
theorem Sys.other (h:Sys w0 w bs ts){i t:Nat}{T:TS}(hi:ts[i]? =some (t,T)):∃g F,w.cell? ⟨t,1,none⟩=some (.pointer (some ⟨g,0,none⟩))/\GridAt w g T.other F:=by
 obtain⟨F,g,o,ba,bn,bc,pa,pn,pc,b,a,FB,FP,hI⟩:=h.at hi;exact⟨o,a,(hI.blk.cell 1).trans rfl,hI.g2⟩
theorem Sys.outs (h:Sys w0 w bs ts){i t:Nat}{T:TS}(hi:ts[i]? =some (t,T)):∃ba bn bc rows FB,w.cell? ⟨t,97,none⟩=some (.slice ba bn bc)/\bn=T.back.length/\LinesAt w ba bn rows FB/\rows.map Row.l=T.back/\(ba=none\/ ∃b off,ba=some ⟨b,off,none⟩):=by
 obtain⟨F,g,o,ba,bn,bc,pa,pn,pc,a,c,FB,FP,hI⟩:=h.at hi;obtain⟨rows,hL,hm⟩:=hI.bk;exact⟨ba,bn,bc,rows,FB,(hI.blk.cell 97).trans (by kernel_rfl),by rw[<-hm,hJ,hL.len],hL,hm,hI.bz⟩
theorem Fine.back {T:TS}(h:Fine T):T.back.length<=1000:=by obtain⟨⟨W,H,h⟩,_⟩:=h;exact ip h.bk (by decide)
theorem Fine.params {T:TS}(h:Fine T):T.parser.params.length<=1000:=ip h.2.n (by decide)
end
end Go.Proofs.YtjjcnhgpccancaaGreatDoor.X

namespace Go.Proofs.YtjjcnhgpccancaaGreatDoor.X
open Go Go.RowKit Go.Proofs.YtjjcnhgpccancaaGreatDoor
def PS.gr (p:PS):Prop:=p.state=0->p={atP 0 with utf:=p.utf}
abbrev b24:ByteArray:=⟨#[24]⟩
end Go.Proofs.YtjjcnhgpccancaaGreatDoor.X

namespace Go.Proofs.YtjjcnhgpccancaaGreatDoor.X
open Go Go.RowKit Go.Proofs.YtjjcnhgpccancaaGreatDoor
structure Kp (T U:TS):Prop where
 alt:U.alt=true
 other:U.other=T.other
 away:U.away=T.away
 saved:U.saved=T.saved
 top:U.top=T.top
 bot:U.bot=T.bot
 title:U.title=T.title
 back:U.back=T.back
theorem Kp.refl {T:TS}(h:T.alt=true):Kp T T:=⟨h,rfl,rfl,rfl,rfl,rfl,rfl,rfl⟩
theorem Kp.trans {T U V:TS}(h:Kp T U)(k:Kp U V):Kp T V:=⟨k.alt,k.other.trans h.other,k.away.trans h.away,k.saved.trans h.saved,k.top.trans h.top,k.bot.trans h.bot,k.title.trans h.title,k.back.trans h.back⟩
section
variable {w w':World}{t g o:Nat}{ba:Option Addr}{bn bc:Nat}{pa:Option Addr}{pn pc:Nat}{T:TS}{F F1 F2 FB FP:Nat->Prop}
theorem TermIn.grid2 (h:TermIn w t g o ba bn bc pa pn pc T F F1 F2 FB FP)(hc:Ch F2 w w'){G':Gr}{F2':Nat->Prop}(hG:GridAt w' o G' F2')(hF:∀b,F2' b->more F2 w w' b):
  TermIn w' t g o ba bn bc pa pn pc ({T with other:=G'}:TS) (more F w w') F1 F2' FB FP:=by
 have i:∀b,F1 b->b<w.heap.size:=h.g1.lt;have d:∀b,F b->b<w.heap.size:=h.lt;have j:=h.blk.lt;obtain⟨f,hL,hl⟩:=h.bk;have ap:∀(X:Nat->Prop),(∀b,X b->F b)->(∀b,F2 b-> ¬X b)-> ∀b,F2' b-> ¬X b:=fun X hX ha b hb hx=>by
  rcases hF b hb with a|a
  ·exact ha b a hx
  ·have:=d b (hX b hx);omega
 exact
 {blk:=h.blk.ch hc h.t2
  g1:=h.g1.ch hc fun b a c=>h.a12 b a c
  g2:=hG
  bk:=⟨f,hL.ch hc fun b hb a=>h.a2B b a hb,hl⟩
  bcap:=h.bcap
  ps:=⟨h.ps.1.ch hc fun ad e a=>h.a2P _ a (h.ps.2.2.2 ad e),h.ps.2⟩
  pz:=h.pz
  bz:=h.bz
  t1:=h.t1
  t2:=fun hb=>by
   rcases hF t hb with a|a
   ·exact h.t2 a
   ·omega
  tB:=h.tB,tP:=h.tP
  a12:=fun b a c=>ap F1 h.inF.2.1 (fun b c a=>h.a12 b a c) b c a
  a1B:=h.a1B
  a2B:=ap FB h.inF.2.2.2.1 h.a2B
  a1P:=h.a1P
  a2P:=ap FP h.inF.2.2.2.2 h.a2P
  inF:=⟨.inl h.inF.1,fun b hb=> .inl (h.inF.2.1 b hb),fun b hb=>(hF b hb).elim (fun a=> .inl (h.inF.2.2.1 b a)) .inr,fun b hb=> .inl (h.inF.2.2.2.1 b hb),fun b hb=> .inl (h.inF.2.2.2.2 b hb)⟩
  lt:=fun b hb=>hb.elim (fun hb=>ic (d b hb) hc.size) fun hb=>hb.2
  hi:=fun b hb=>hb.elim (h.hi b) fun hb=>by have:=h.hi t h.inF.1;omega}
theorem TermIn.chF2 (h:TermIn w t g o ba bn bc pa pn pc T F F1 F2 FB FP)(hc:Ch F2 w w'):Ch F w w':=hc.mono fun b _ hb=>h.inF.2.2.1 b hb
end
def qjE (p:Int):Int:=min (max p 1) 60
def upI (T:TS)(p2:Int):Int:=max (T.cursor.y-qjE p2+1) 0
def fixC (c:Cur)(w h:Int):Cur:=⟨min c.x (w-1),min c.y (h-1),c.late&&((c.x:Int)==w-1),c.sty⟩
def rs1 (T:TS)(p1 p2:Int):TS:=
 if T.alt=true then{T with grid:=qe4 T.grid p1 (qjE p2) (upI T p2)}
 else{T with grid:=qe4 T.grid p1 (qjE p2) (upI T p2),back:=qhe T.back (T.grid.lines.take (qfY T.grid (upI T p2)).toNat)}
def rs2 (T:TS)(p1 p2:Int):TS:={rs1 T p1 p2 with other:=qe4 (rs1 T p1 p2).other p1 (qjE p2) 0}
def qcH (T:TS)(p1 p2:Int):TS:=
 {rs2 T p1 p2 with
  top:=0,bot:=(rs2 T p1 p2).grid.h
  cursor:=fixC ⟨(rs2 T p1 p2).cursor.x,(rs2 T p1 p2).cursor.y-upI T p2,(rs2 T p1 p2).cursor.late,(rs2 T p1 p2).cursor.sty⟩ (rs2 T p1 p2).grid.w (rs2 T p1 p2).grid.h
  saved:=fixC (rs2 T p1 p2).saved (rs2 T p1 p2).grid.w (rs2 T p1 p2).grid.h
  away:=fixC (rs2 T p1 p2).away (rs2 T p1 p2).grid.w (rs2 T p1 p2).grid.h}
theorem rs1_f (T:TS)(p1 p2:Int):(rs1 T p1 p2).cursor=T.cursor/\(rs1 T p1 p2).saved=T.saved/\(rs1 T p1 p2).away=T.away/\(rs1 T p1 p2).other=T.other/\(rs1 T p1 p2).reply=T.reply/\(rs1 T p1 p2).parser=T.parser/\(rs1 T p1 p2).alt=T.alt/\
  (rs1 T p1 p2).grid.w=qi p1/\(rs1 T p1 p2).grid.h=qi (qjE p2):=by
 unfold rs1;split<;>exact⟨rfl,rfl,rfl,rfl,rfl,rfl,rfl,rfl,rfl⟩
theorem qkN (p:Int):1<=qjE p/\qjE p<=60/\qi (qjE p)=qjE p/\qi p=qjE p:=by unfold qjE qi;omega
theorem rs2_f (T:TS)(p1 p2:Int):(rs2 T p1 p2).cursor=T.cursor/\(rs2 T p1 p2).saved=T.saved/\(rs2 T p1 p2).away=T.away/\(rs2 T p1 p2).grid.w=qi p1/\(rs2 T p1 p2).grid.h=qjE p2/\(rs2 T p1 p2).reply=T.reply/\(rs2 T p1 p2).parser=T.parser:=by
 obtain⟨a,b,c,i,d,e,j,f,k⟩:=rs1_f T p1 p2;have hb:=qkN p2;exact⟨a,b,c,f,by show(rs1 T p1 p2).grid.h=_;omega,d,e⟩
theorem rs1_back {W H:Int}{T:TS}(h:Lim W H T)(p1 p2:Int):(rs1 T p1 p2).back.length<=20:=by
 unfold rs1;split
 ·exact h.bk
 ·exact qjn _ _
theorem qhG {W H:Int}{T:TS}(h:Lim W H T)(p1 p2:Int):Lim (qi p1) (qi p2) (qcH T p1 p2):=by
 obtain⟨c,d,e,a,b,f,j⟩:=rs2_f T p1 p2;have hb:=qkN p2;have i:1<=qi p1/\qi p1<=60:=by unfold qi;omega
 obtain⟨⟨k,l⟩,m,n⟩:=h.cu;obtain⟨⟨p,q⟩,r,s⟩:=h.sa;obtain⟨⟨u,v⟩,z,A⟩:=h.aw;refine⟨i,by omega,⟨a,by show(rs2 T p1 p2).grid.h=_;omega⟩,⟨rfl,by show qi (qjE p2)=_;omega⟩,?_,?_,?_,?_,rs1_back h p1 p2,by show(rs2 T p1 p2).reply.size<=400;rw[f];exact h.rp⟩
 ·show(0<=min (rs2 T p1 p2).cursor.x ((rs2 T p1 p2).grid.w-1)/\min (rs2 T p1 p2).cursor.x ((rs2 T p1 p2).grid.w-1)<_)/\0<=min ((rs2 T p1 p2).cursor.y-upI T p2) ((rs2 T p1 p2).grid.h-1)/\min ((rs2 T p1 p2).cursor.y-upI T p2) ((rs2 T p1 p2).grid.h-1)<_
  rw[c,a,b];unfold upI;omega
 ·show(0<=min (rs2 T p1 p2).saved.x ((rs2 T p1 p2).grid.w-1)/\min (rs2 T p1 p2).saved.x ((rs2 T p1 p2).grid.w-1)<_)/\0<=min (rs2 T p1 p2).saved.y ((rs2 T p1 p2).grid.h-1)/\min (rs2 T p1 p2).saved.y ((rs2 T p1 p2).grid.h-1)<_
  rw[d,a,b];omega
 ·show(0<=min (rs2 T p1 p2).away.x ((rs2 T p1 p2).grid.w-1)/\min (rs2 T p1 p2).away.x ((rs2 T p1 p2).grid.w-1)<_)/\0<=min (rs2 T p1 p2).away.y ((rs2 T p1 p2).grid.h-1)/\min (rs2 T p1 p2).away.y ((rs2 T p1 p2).grid.h-1)<_
  rw[e,a,b];omega
 ·show 0<=(0:Int)/\(0:Int)<(rs2 T p1 p2).grid.h/\(rs2 T p1 p2).grid.h<=_
  rw[b];omega
theorem qeR (T:TS)(p1 p2:Int):(qcH T p1 p2).parser=T.parser:=(rs2_f T p1 p2).2.2.2.2.2.2
theorem qjF {w:World}{t:Nat}{W H:Int}{T:TS}{F:Nat->Prop}(hA0:TermAt w t T F)(hT:LT w)(hL:Lim W H T)(p1 p2:Int):CP 84 [pX t,iX p1,iX p2].toArray w fun e w'=>e= .returned (.tuple #[])/\TermAt w' t (qcH T p1 p2) (more F w w')/\Ch F w w':=by
 obtain⟨g,o,ba,bn,bc,pa,pn,pc,F1,F2,FB,FP,hI⟩:=hA0;have hA0:TermAt w t T F:=⟨g,o,ba,bn,bc,pa,pn,pc,F1,F2,FB,FP,hI⟩
 have aW:=hI.inF.1;obtain⟨gv,cu⟩:=hI.g1.head;have cv:Df t g:=fun e=>hI.t1 (e▸hI.g1.inF);obtain⟨⟨cw,cx⟩,⟨cy,cz⟩,cA,cB⟩:=hI.g1.ok;have aX:=hL;have cC:=aX.all;refine yA Tryz.func84 rfl<|yx 4<|ysr<|yp 10 [] (.l (hI.blk.c 3) (.q6 (T.cursor.y-(min ((max (p2:Int) 1):Int) 60)) (.q6 ((T.cursor.y-(min ((max (p2:Int) 1):Int) 60))+1) .z)))<|ye<|ysr<|yp 7 [] (.l (hI.blk.c 0) .z)<|yo (yC (qhp g T.grid F1 p1 (qjE p2) (upI T p2) _ hT.tb hI.g1) ?_);rintro _ X ⟨ro,n1,cD,aY,K1,rfl,ag,ah,hG,hF,hK,b0,hc⟩;refine⟨_,rfl,?_⟩;have E:=hI.grid1 hc hG hF;have C:=hI.chF hc;have b1:=qaN C hT (fun b hb=>hI.hi b hb);have b2:∀b,K1 b->more F w X b/\ ¬aY b/\ ¬F2 b/\b≠t:=fun b hb=>by
  have f:=hK b hb;refine⟨f.elim (fun h=> .inl (hI.inF.2.1 b h)) .inr,fun h=>b0 b h hb,fun h=>?_,fun h=>?_⟩
  ·rcases f with f|f
   ·exact hI.a12 b f h
   have:=hI.g2.lt b h;omega
  rcases f with f|f
  ·exact hI.t1 (h▸f)
  have:=hI.blk.lt;omega
 have b3:n1<=1000:=by
  have h1:=ag.len;have f:=congrArg List.length ah;rw[hJ,im]at f;omega
 refine yz 9<|qaR ([(0,pX t),(1,iX p1),(2,iX (qjE p2)),(6,iX (upI T p2))]) (fun u=>TermAt u t (rs1 T p1 p2) (more F w u)/\Ch F w u/\LT u) (fun cE aj=>?_) (fun u13 b4=>?_)
 ·refine ysr<|yp 5 [] (.l (E.blk.c 95) .z)<|ye<|yc (rN (rY T.alt)) (fun Y=>?_) fun Y=>?_
  ·refine q7<|yq 2<|yo (yC (qlB (lc:=n1) E ag (fun e=>by cases e) b2 (by have:=hI.bk;obtain⟨rr,h1,f⟩:=this;have h3:=h1.len;have h4:rr.length=T.back.length:=(by have h5:=congrArg List.length f;rw[hJ]at h5;exact h5);omega) b3) ?_);rintro _ al ⟨cH,cI,cJ,rfl,b5,O⟩;refine⟨_,rfl,?_⟩;refine yE (fun a ha=>aj _ ⟨TermAt.eq' (show TermAt al t _ (more F w al)from⟨_,_,_,_,_,_,_,_,_,_,_,_,b5.mono (qcf C.size O.size) (hI.moreOk (ip C.size O.size))⟩) (by unfold rs1;rw[if_neg (by rw[Y];decide),<-ah]),Ch.more C (E.cht O),qaN (Ch.more C (E.cht O)) hT (fun b hb=>hI.hi b hb)⟩ a (ha.kp [0,1,2,6]))
  refine ql (fun a ha=>aj _ ⟨TermAt.eq' (show TermAt X t _ (more F w X)from⟨_,_,_,_,_,_,_,_,_,_,_,_,E⟩) (by unfold rs1;rw[if_pos Y]),C,b1⟩ a (ha.kp [0,1,2,6]))
 obtain⟨⟨j,k,n,p,q,r,s,v,b6,b7,b8,b9,P⟩,am,bb⟩:=b4;refine ysr<|yp 6 [] (.l (P.blk.c 1) .z)<|yo (yC (qhp k (rs1 T p1 p2).other b7 p1 (qjE p2) 0 _ bb.tb P.g2) ?_);rintro _ B ⟨cK,n6,cM,bd,K6,rfl,cO,cP,bf,bg,cQ,cR,an⟩;refine⟨_,rfl,?_⟩;have D:TermIn B t j k n p q r s v (rs2 T p1 p2) (more (more F w u13) u13 B) b6 bd b8 b9:=P.grid2 an bf bg;have ao:=P.chF2 an;have bh:=Ch.more am ao;obtain⟨d1,d2,d3,d4,d5,d6,d7⟩:=rs2_f T p1 p2;have cW:(rs2 T p1 p2).cursor.x=T.cursor.x:=by rw[d1]
 have cX:(rs2 T p1 p2).cursor.y=T.cursor.y:=by rw[d1]
 have cY:(rs2 T p1 p2).saved.x=T.saved.x:=by rw[d2]
 have cZ:(rs2 T p1 p2).saved.y=T.saved.y:=by rw[d2]
 have d0:(rs2 T p1 p2).away.x=T.away.x:=by rw[d3]
 have d8:(rs2 T p1 p2).away.y=T.away.y:=by rw[d3]
 have d9:=qkN p2;have da:1<=qi p1/\qi p1<=60:=by unfold qi;omega
 have db:0<=upI T p2/\upI T p2<=60:=by unfold upI;omega
 obtain⟨dc,G⟩:=D.g1.head;have A:Df t j:=fun e=>D.t1 (e▸D.g1.inF);refine ye<|ysr<|yp 11 [] (.l (D.blk.c 0) (.l (G.c 1) .z))<|yo (yS D.blk fun dd bi au=>?_);have bj:=zt (Ch.refl (· =t) B) au (fun i hi (h:i=t)=>h);have bl:=G.ch au (fun h=>A h.symm);refine yq 14<|yo (yS bi fun de av aw=>?_);have bm:=zt bj aw (fun i hi (h:i=t)=>h);have bo:=bl.ch aw (fun h=>A h.symm);refine ye<|ysr<|yp 10 [] (.l (av.c 3) (.q6 ((rs2 T p1 p2).cursor.y-(upI T p2)) .z))<|yo (yS av fun df bp ax=>?_);have bq:=zt bm ax (fun i hi (h:i=t)=>h);have br:=bo.ch ax (fun h=>A h.symm);refine ye<|ys<|yD [9] fun dg dh Z=>?_;have ay:=zt bq Z eZ;have bs:=br.ch Z id;have m:=bp.ch Z id;refine yd [0,1,2,3,4,5,6,7,8,11] [] .z<|yK 9 (yB [.pointer (some ⟨t,2,none⟩),.pointer (some ⟨t,10,none⟩),.pointer (some ⟨t,18,none⟩)] 167 3 fun di d bt dj az a0=>?_);have dk:B.heap.size<=d:=by rw[bt];exact zzs ay
 have bu:=zt ay a0 eZ;have bv:=bs.ch a0 id;have bw:=m.ch a0 id;refine q8<|yd [10] [] .z<|yDe (nS ?_);refine qa<|yU 4 (yU1 ?_);refine yx 1<|ys<|yct<|yk<|ys<|qa<|ysr<|yp 3 [] (.i 0 (3) (.l (az.c 0) .z))<|ye<|qaR ([(0,pX t),(9,.pointer (some ⟨t,2,none⟩)),(77,.slice (some ⟨d,0,none⟩) 3 3),(78,iX 3),(79,iX 0)]) (fun u=>Blk u t (TS.vals ({(rs2 T p1 p2)with cursor:=(Cur.mk (rs2 T p1 p2).cursor.x ((rs2 T p1 p2).cursor.y-(upI T p2)) ((rs2 T p1 p2).cursor.late&&(((rs2 T p1 p2).cursor.x:Int)==(rs2 T p1 p2).grid.w-1)) (rs2 T p1 p2).cursor.sty),top:=0,bot:=(rs2 T p1 p2).grid.h}:TS) j k (.slice n p q) (.slice r s v)) qas/\Ch (· =t) B u/\Blk u d [.pointer (some ⟨t,2,none⟩),.pointer (some ⟨t,10,none⟩),.pointer (some ⟨t,18,none⟩)] 167) (fun dl aA=>?_) (fun u54 bx=>?_)
 ·refine yD [22] fun dm dn Q=>?_;have aB:=zt bu Q eZ;have bz:=bv.ch Q id;have I:=bw.ch Q id;have aC:=az.ch Q id;refine yd (uL 0 6) [] (.l (I.c 4) .z)<|yv [88] (rY (rs2 T p1 p2).cursor.late) (fun a1=>?_) fun a1=>?_
  ·refine yd (uL 6 16) [] (.l (I.c 2) (.l (I.c 0) (.l (bz.c 0) (.q6 ((rs2 T p1 p2).grid.w-1) .z))))<|yK 22 (yS I fun dp bA aD=>?_);have bB:=zt aB aD (fun i hi (h:i=t)=>h);have bC:=aC.ch aD (fun(h:d=t)=>by have:=m.lt;omega);refine q8<|yDe (fun a ha=>aA _ ⟨Blk.to (Blk.to (cs':=(TS.vals ({(rs2 T p1 p2)with cursor:=(Cur.mk (rs2 T p1 p2).cursor.x ((rs2 T p1 p2).cursor.y-(upI T p2)) (((rs2 T p1 p2).cursor.x:Int)==((rs2 T p1 p2).grid.w-1)) (rs2 T p1 p2).cursor.sty),top:=0,bot:=(rs2 T p1 p2).grid.h}:TS) j k (.slice n p q) (.slice r s v))) bA (by kernel_rfl)) (by simp only[a1,jN,k7]),bB,bC⟩ a (ha.kp [0,9,77,78,79]))
  refine yd (uL 6 16) [] .z<|yK 22 (yS I fun dq bD aE=>?_);have bE:=zt aB aE (fun i hi (h:i=t)=>h);have bF:=aC.ch aE (fun(h:d=t)=>by have:=m.lt;omega);refine q8<|yDe (fun a ha=>aA _ ⟨Blk.to (Blk.to (cs':=(TS.vals ({(rs2 T p1 p2)with cursor:=(Cur.mk (rs2 T p1 p2).cursor.x ((rs2 T p1 p2).cursor.y-(upI T p2)) false (rs2 T p1 p2).cursor.sty),top:=0,bot:=(rs2 T p1 p2).grid.h}:TS) j k (.slice n p q) (.slice r s v))) bD (by kernel_rfl)) (by simp only[a1,jN,k7]),bE,bF⟩ a (ha.kp [0,9,77,78,79]))
 obtain⟨bG,aF,bH⟩:=bx;have bI:=G.ch aF (fun h=>A h.symm);refine yD [30,33] fun dr ds R=>?_;have bJ:=zt aF R eZ;have a2:=bI.ch R id;have J:=bG.ch R id;have bK:=bH.ch R id;refine yd (uL 0 26) [] (.l (J.c 2) (.l (J.c 0) (.l (a2.c 0) (.q6 ((rs2 T p1 p2).grid.w-1) (.l (J.c 3) (.l (J.c 0) (.l (a2.c 1) .z)))))))<|ydT (uL 26 4) [] rfl (fun _=>(.q6 ((rs2 T p1 p2).grid.h-1) .z))<|yK 30 (yS J fun dt bL a3=>?_);have bM:=zt bJ a3 (fun i hi (h:i=t)=>h);have bN:=a2.ch a3 (fun h=>A h.symm);have bO:=bK.ch a3 (fun(h:d=t)=>by have:=m.lt;omega);refine q8<|yd [31,32] [] .z<|yK 33 (yS bL fun du bP a4=>?_);have bQ:=zt bM a4 (fun i hi (h:i=t)=>h);have bR:=bN.ch a4 (fun h=>A h.symm);have aG:=bO.ch a4 (fun(h:d=t)=>by have:=m.lt;omega);refine q8<|yDe (nB (nS ?_));refine q7<|yp 2 [] (.q6 1 .z)<|yE (nU (yU1 ?_));refine yx 1<|ys<|yct<|yk<|ys<|qa<|ysr<|yp 3 [] (.i 1 (3) (.l (aG.c 1) .z))<|ye<|qaR ([(0,pX t),(9,.pointer (some ⟨t,10,none⟩)),(77,.slice (some ⟨d,0,none⟩) 3 3),(78,iX 3),(79,iX 1)]) (fun u=>Blk u t (TS.vals ({(rs2 T p1 p2)with cursor:=(Cur.mk (min ((rs2 T p1 p2).cursor.x:Int) ((rs2 T p1 p2).grid.w-1)) (min (((rs2 T p1 p2).cursor.y-(upI T p2)):Int) ((rs2 T p1 p2).grid.h-1)) ((rs2 T p1 p2).cursor.late&&(((rs2 T p1 p2).cursor.x:Int)==(rs2 T p1 p2).grid.w-1)) (rs2 T p1 p2).cursor.sty),saved:=(Cur.mk (rs2 T p1 p2).saved.x (rs2 T p1 p2).saved.y ((rs2 T p1 p2).saved.late&&(((rs2 T p1 p2).saved.x:Int)==(rs2 T p1 p2).grid.w-1)) (rs2 T p1 p2).saved.sty),top:=0,bot:=(rs2 T p1 p2).grid.h}:TS) j k (.slice n p q) (.slice r s v)) qas/\Ch (· =t) B u/\Blk u d [.pointer (some ⟨t,2,none⟩),.pointer (some ⟨t,10,none⟩),.pointer (some ⟨t,18,none⟩)] 167) (fun dv aH=>?_) (fun u105 bS=>?_)
 ·refine yD [22] fun dw dx S=>?_;have aI:=zt bQ S eZ;have bT:=bR.ch S id;have aJ:=aG.ch S id;have K:=bP.ch S id;refine yd (uL 0 6) [] (.l (K.c 12) .z)<|yv [88] (rY (rs2 T p1 p2).saved.late) (fun a5=>?_) fun a5=>?_
  ·refine yd (uL 6 16) [] (.l (K.c 10) (.l (K.c 0) (.l (bT.c 0) (.q6 ((rs2 T p1 p2).grid.w-1) .z))))<|dkeep [0,9,77,78,79,102,104] (f':=[(0,pX t),(9,.pointer (some ⟨t,10,none⟩)),(77,.slice (some ⟨d,0,none⟩) 3 3),(78,iX 3),(79,iX 1),(102,.bool (((rs2 T p1 p2).saved.x:Int)==((rs2 T p1 p2).grid.w-1))),(104,.pointer (some ⟨t,12,none⟩))])<|yK 22 (yS K fun dy bU aK=>?_);have bV:=zt aI aK (fun i hi (h:i=t)=>h);have bW:=aJ.ch aK (fun(h:d=t)=>by have:=m.lt;omega);refine q8<|yDe (fun a ha=>aH _ ⟨Blk.to (Blk.to (cs':=(TS.vals ({(rs2 T p1 p2)with cursor:=(Cur.mk (min ((rs2 T p1 p2).cursor.x:Int) ((rs2 T p1 p2).grid.w-1)) (min (((rs2 T p1 p2).cursor.y-(upI T p2)):Int) ((rs2 T p1 p2).grid.h-1)) ((rs2 T p1 p2).cursor.late&&(((rs2 T p1 p2).cursor.x:Int)==(rs2 T p1 p2).grid.w-1)) (rs2 T p1 p2).cursor.sty),saved:=(Cur.mk (rs2 T p1 p2).saved.x (rs2 T p1 p2).saved.y (((rs2 T p1 p2).saved.x:Int)==((rs2 T p1 p2).grid.w-1)) (rs2 T p1 p2).saved.sty),top:=0,bot:=(rs2 T p1 p2).grid.h}:TS) j k (.slice n p q) (.slice r s v))) bU (by kernel_rfl)) (by simp only[a5,jN,k7]),bV,bW⟩ a (ha.kp [0,9,77,78,79]))
  refine yd (uL 6 16) [] .z<|dkeep [0,9,77,78,79,102,104] (f':=[(0,pX t),(9,.pointer (some ⟨t,10,none⟩)),(77,.slice (some ⟨d,0,none⟩) 3 3),(78,iX 3),(79,iX 1),(102,xF),(104,.pointer (some ⟨t,12,none⟩))])<|yK 22 (yS K fun dz bX aL=>?_);have bY:=zt aI aL (fun i hi (h:i=t)=>h);have bZ:=aJ.ch aL (fun(h:d=t)=>by have:=m.lt;omega);refine q8<|yDe (fun a ha=>aH _ ⟨Blk.to (Blk.to (cs':=(TS.vals ({(rs2 T p1 p2)with cursor:=(Cur.mk (min ((rs2 T p1 p2).cursor.x:Int) ((rs2 T p1 p2).grid.w-1)) (min (((rs2 T p1 p2).cursor.y-(upI T p2)):Int) ((rs2 T p1 p2).grid.h-1)) ((rs2 T p1 p2).cursor.late&&(((rs2 T p1 p2).cursor.x:Int)==(rs2 T p1 p2).grid.w-1)) (rs2 T p1 p2).cursor.sty),saved:=(Cur.mk (rs2 T p1 p2).saved.x (rs2 T p1 p2).saved.y false (rs2 T p1 p2).saved.sty),top:=0,bot:=(rs2 T p1 p2).grid.h}:TS) j k (.slice n p q) (.slice r s v))) bX (by kernel_rfl)) (by simp only[a5,jN,k7]),bY,bZ⟩ a (ha.kp [0,9,77,78,79]))
 obtain⟨c0,aM,c1⟩:=bS;have c2:=G.ch aM (fun h=>A h.symm);refine yD [30,33] fun dA dB U=>?_;have c3:=zt aM U eZ;have a6:=c2.ch U id;have c4:=c1.ch U id;have L:=c0.ch U id;refine yd (uL 0 26) [] (.l (L.c 10) (.l (L.c 0) (.l (a6.c 0) (.q6 ((rs2 T p1 p2).grid.w-1) (.l (L.c 11) (.l (L.c 0) (.l (a6.c 1) .z)))))))<|dkeep [0,77,78,79,105,106,119,123,130] (f':=[(0,pX t),(77,.slice (some ⟨d,0,none⟩) 3 3),(78,iX 3),(79,iX 1),(105,.pointer (some ⟨t,10,none⟩)),(106,.pointer (some ⟨t,10,none⟩)),(119,iX (min ((rs2 T p1 p2).saved.x:Int) ((rs2 T p1 p2).grid.w-1))),(123,iX (rs2 T p1 p2).saved.y),(130,iX (rs2 T p1 p2).grid.h)])<|ydT (uL 26 4) [] rfl (fun _=>(.q6 ((rs2 T p1 p2).grid.h-1) .z))<|yK 30 (yS L fun dC c5 a7=>?_);have c6:=zt c3 a7 (fun i hi (h:i=t)=>h);have c7:=a6.ch a7 (fun h=>A h.symm);have c8:=c4.ch a7 (fun(h:d=t)=>by have:=m.lt;omega);refine q8<|yd [31,32] [] .z<|yK 33 (yS c5 fun dD c9 a8=>?_);have ca:=zt c6 a8 (fun i hi (h:i=t)=>h);have cb:=c7.ch a8 (fun h=>A h.symm);have aN:=c8.ch a8 (fun(h:d=t)=>by have:=m.lt;omega);refine q8<|yDe (nB (nS ?_));refine q7<|yp 2 [] (.q6 2 .z)<|yE (nU (yU1 ?_));refine yx 1<|ys<|yct<|yk<|ys<|qa<|ysr<|yp 3 [] (.i 2 (3) (.l (aN.c 2) .z))<|ye<|qaR ([(0,pX t),(9,.pointer (some ⟨t,18,none⟩)),(77,.slice (some ⟨d,0,none⟩) 3 3),(78,iX 3),(79,iX 2)]) (fun u=>Blk u t (TS.vals ({(rs2 T p1 p2)with cursor:=(Cur.mk (min ((rs2 T p1 p2).cursor.x:Int) ((rs2 T p1 p2).grid.w-1)) (min (((rs2 T p1 p2).cursor.y-(upI T p2)):Int) ((rs2 T p1 p2).grid.h-1)) ((rs2 T p1 p2).cursor.late&&(((rs2 T p1 p2).cursor.x:Int)==(rs2 T p1 p2).grid.w-1)) (rs2 T p1 p2).cursor.sty),saved:=(Cur.mk (min ((rs2 T p1 p2).saved.x:Int) ((rs2 T p1 p2).grid.w-1)) (min ((rs2 T p1 p2).saved.y:Int) ((rs2 T p1 p2).grid.h-1)) ((rs2 T p1 p2).saved.late&&(((rs2 T p1 p2).saved.x:Int)==(rs2 T p1 p2).grid.w-1)) (rs2 T p1 p2).saved.sty),away:=(Cur.mk (rs2 T p1 p2).away.x (rs2 T p1 p2).away.y ((rs2 T p1 p2).away.late&&(((rs2 T p1 p2).away.x:Int)==(rs2 T p1 p2).grid.w-1)) (rs2 T p1 p2).away.sty),top:=0,bot:=(rs2 T p1 p2).grid.h}:TS) j k (.slice n p q) (.slice r s v)) qas/\Ch (· =t) B u/\Blk u d [.pointer (some ⟨t,2,none⟩),.pointer (some ⟨t,10,none⟩),.pointer (some ⟨t,18,none⟩)] 167) (fun dE aO=>?_) (fun u156 cc=>?_)
 ·refine yD [22] fun dF dG V=>?_;have aP:=zt ca V eZ;have cd:=cb.ch V id;have aQ:=aN.ch V id;have M:=c9.ch V id;refine yd (uL 0 6) [] (.l (M.c 20) .z)<|yv [88] (rY (rs2 T p1 p2).away.late) (fun a9=>?_) fun a9=>?_
  ·refine yd (uL 6 16) [] (.l (M.c 18) (.l (M.c 0) (.l (cd.c 0) (.q6 ((rs2 T p1 p2).grid.w-1) .z))))<|yK 22 (yS M fun dH ce aR=>?_);have cf:=zt aP aR (fun i hi (h:i=t)=>h);have cg:=aQ.ch aR (fun(h:d=t)=>by have:=m.lt;omega);refine q8<|yDe (fun a ha=>aO _ ⟨Blk.to (Blk.to (cs':=(TS.vals ({(rs2 T p1 p2)with cursor:=(Cur.mk (min ((rs2 T p1 p2).cursor.x:Int) ((rs2 T p1 p2).grid.w-1)) (min (((rs2 T p1 p2).cursor.y-(upI T p2)):Int) ((rs2 T p1 p2).grid.h-1)) ((rs2 T p1 p2).cursor.late&&(((rs2 T p1 p2).cursor.x:Int)==(rs2 T p1 p2).grid.w-1)) (rs2 T p1 p2).cursor.sty),saved:=(Cur.mk (min ((rs2 T p1 p2).saved.x:Int) ((rs2 T p1 p2).grid.w-1)) (min ((rs2 T p1 p2).saved.y:Int) ((rs2 T p1 p2).grid.h-1)) ((rs2 T p1 p2).saved.late&&(((rs2 T p1 p2).saved.x:Int)==(rs2 T p1 p2).grid.w-1)) (rs2 T p1 p2).saved.sty),away:=(Cur.mk (rs2 T p1 p2).away.x (rs2 T p1 p2).away.y (((rs2 T p1 p2).away.x:Int)==((rs2 T p1 p2).grid.w-1)) (rs2 T p1 p2).away.sty),top:=0,bot:=(rs2 T p1 p2).grid.h}:TS) j k (.slice n p q) (.slice r s v))) ce (by kernel_rfl)) (by simp only[a9,jN,k7]),cf,cg⟩ a (ha.kp [0,9,77,78,79]))
  refine yd (uL 6 16) [] .z<|yK 22 (yS M fun dI ci aS=>?_);have cj:=zt aP aS (fun i hi (h:i=t)=>h);have ck:=aQ.ch aS (fun(h:d=t)=>by have:=m.lt;omega);refine q8<|yDe (fun a ha=>aO _ ⟨Blk.to (Blk.to (cs':=(TS.vals ({(rs2 T p1 p2)with cursor:=(Cur.mk (min ((rs2 T p1 p2).cursor.x:Int) ((rs2 T p1 p2).grid.w-1)) (min (((rs2 T p1 p2).cursor.y-(upI T p2)):Int) ((rs2 T p1 p2).grid.h-1)) ((rs2 T p1 p2).cursor.late&&(((rs2 T p1 p2).cursor.x:Int)==(rs2 T p1 p2).grid.w-1)) (rs2 T p1 p2).cursor.sty),saved:=(Cur.mk (min ((rs2 T p1 p2).saved.x:Int) ((rs2 T p1 p2).grid.w-1)) (min ((rs2 T p1 p2).saved.y:Int) ((rs2 T p1 p2).grid.h-1)) ((rs2 T p1 p2).saved.late&&(((rs2 T p1 p2).saved.x:Int)==(rs2 T p1 p2).grid.w-1)) (rs2 T p1 p2).saved.sty),away:=(Cur.mk (rs2 T p1 p2).away.x (rs2 T p1 p2).away.y false (rs2 T p1 p2).away.sty),top:=0,bot:=(rs2 T p1 p2).grid.h}:TS) j k (.slice n p q) (.slice r s v))) ci (by kernel_rfl)) (by simp only[a9,jN,k7]),cj,ck⟩ a (ha.kp [0,9,77,78,79]))
 obtain⟨cl,aT,dJ⟩:=cc;have cm:=G.ch aT (fun h=>A h.symm);refine yD [30,33] fun dK dL aa=>?_;have cn:=zt aT aa eZ;have aU:=cm.ch aa id;have N:=cl.ch aa id;refine yd (uL 0 26) [] (.l (N.c 18) (.l (N.c 0) (.l (aU.c 0) (.q6 ((rs2 T p1 p2).grid.w-1) (.l (N.c 19) (.l (N.c 0) (.l (aU.c 1) .z)))))))<|ydT (uL 26 4) [] rfl (fun _=>(.q6 ((rs2 T p1 p2).grid.h-1) .z))<|yK 30 (yS N fun dM co cp=>?_);have cq:=zt cn cp (fun i hi (h:i=t)=>h);refine q8<|yd [31,32] [] .z<|yK 33 (yS co fun ab cr cs=>?_);have ac:=zt cq cs (fun i hi (h:i=t)=>h);refine q8<|yDe (nB (nS ?_));refine q7<|yp 2 [] (.q6 3 .z)<|yE (nU (yU1 ?_));refine yx 1<|ys<|ycf<|qm (eS (qd (qb (qT ?_))));have ct:=D.scalar (T':=({(rs2 T p1 p2)with cursor:=(Cur.mk (min ((rs2 T p1 p2).cursor.x:Int) ((rs2 T p1 p2).grid.w-1)) (min (((rs2 T p1 p2).cursor.y-(upI T p2)):Int) ((rs2 T p1 p2).grid.h-1)) ((rs2 T p1 p2).cursor.late&&(((rs2 T p1 p2).cursor.x:Int)==(rs2 T p1 p2).grid.w-1)) (rs2 T p1 p2).cursor.sty),saved:=(Cur.mk (min ((rs2 T p1 p2).saved.x:Int) ((rs2 T p1 p2).grid.w-1)) (min ((rs2 T p1 p2).saved.y:Int) ((rs2 T p1 p2).grid.h-1)) ((rs2 T p1 p2).saved.late&&(((rs2 T p1 p2).saved.x:Int)==(rs2 T p1 p2).grid.w-1)) (rs2 T p1 p2).saved.sty),away:=(Cur.mk (min ((rs2 T p1 p2).away.x:Int) ((rs2 T p1 p2).grid.w-1)) (min ((rs2 T p1 p2).away.y:Int) ((rs2 T p1 p2).grid.h-1)) ((rs2 T p1 p2).away.late&&(((rs2 T p1 p2).away.x:Int)==(rs2 T p1 p2).grid.w-1)) (rs2 T p1 p2).away.sty),top:=0,bot:=(rs2 T p1 p2).grid.h}:TS)) ac (Blk.to cr (by kernel_rfl)) rfl rfl rfl rfl
 have dN:=am.size;have dO:=ao.size;have dP:=zzs ac;have aV:Ch F w ab:=zt bh ac (fun i _ h=>h▸aW);exact⟨rfl,TermAt.eq' (show TermAt ab t _ (more F w ab)from⟨_,_,_,_,_,_,_,_,_,_,_,_,ct.mono (fun b hb=>hb.elim (fun h=>h.elim .inl (fun h=> .inr ⟨h.1,by omega⟩)) (fun h=> .inr ⟨by omega,by omega⟩)) (hI.moreOk aV.size)⟩) rfl,aV⟩
structure Stp where
 text:ByteArray
 w:Int
 h:Int
def stp0:Stp:=⟨ByteArray.empty,0,0⟩
def Stp.vals (x:Stp):List Value:=[.string x.text,.int .i64 x.w,.int .i64 x.h]
def flatS:List Stp->List Value
 |[]=>[]
 |x::l=>x.vals++flatS l
def gs (l:List Stp)(k:Nat):Stp:=l.getD k stp0
def doT (T:TS)(x:Stp):TS:=if x.w=0/\x.h=0 then qgx T x.text else qcH T x.w x.h
def doN (T:TS)(l:List Stp):Nat->TS
 |0=>T
 |k+1=>doT (doN T l k) (gs l k)
theorem qkO {T:TS}(h:Fine T)(p1 p2:Int):Fine (qcH T p1 p2):=by
 obtain⟨⟨W,H,h⟩,hp⟩:=h;exact⟨⟨_,_,qhG h p1 p2⟩,by rw[qeR];exact hp⟩
theorem fine_do {T:TS}(h:Fine T)(x:Stp):Fine (doT T x):=by
 unfold doT;split
 ·exact qnc h _
 ·exact qkO h _ _
def qb3 (l:List Cel):Bool:=(List.range l.length).all fun i=>if(gc l (i:Int)).rune=0 then qa0 l ((i:Int)-1)else qkt (gc l (i:Int))&&(!qaZ (gc l (i:Int)).rune||qa0 l (i:Int))
def celO (c:Cel):Prop:=qC c.sty=true/\(c.rune=0\/qbN c.rune=true)
def okS (l:List Cel):Prop:= ∀c∈l,celO c
def okC (l:List Cel):Prop:=okS l/\qb3 l=true
theorem qdg {l:List Cel}{i:Nat}(h:i<l.length):gc l (i:Int)=l[i]:=by simp[gc,List.getD,h]
theorem gc_mem {l:List Cel}{i:Nat}(h:i<l.length):gc l (i:Int)∈l:=by rw[qdg h];exact jG h
theorem wholeB_iff {l:List Cel}:qb3 l=true↔ ∀i:Nat,i<l.length->((gc l (i:Int)).rune=0->qa0 l ((i:Int)-1)=true)/\((gc l (i:Int)).rune≠0->qkt (gc l (i:Int))=true/\(qaZ (gc l (i:Int)).rune=true->qa0 l (i:Int)=true)):=by
 unfold qb3;rw[j0];refine⟨fun h i hi=>?_,fun h i hi=>?_⟩
 ·have:=h i (jz.2 hi)
  split at this
  ·rename_i a;exact⟨fun _=>this,fun h=>absurd a h⟩
  ·rename_i a
   rw[ii,jx,jv]at this;exact⟨fun h=>absurd h a,fun _=>⟨this.1,fun hw=>this.2.elim (fun h=>by rw[h]at hw;cases hw) id⟩⟩
 ·have:=h i (jz.1 hi)
  split
  ·rename_i a;exact this.1 a
  ·rename_i a
   rw[ii,jx,jv];refine⟨(this.2 a).1,?_⟩;cases hw:qaZ (gc l (i:Int)).rune with
   |false=>exact .inl rfl
   |true=>exact .inr ((this.2 a).2 hw)
theorem qjG (l:List Cel):∀k,k<=l.length-> ∀i:Nat,i<l.length->gc (qbu l k) (i:Int)=if i<k then qe3 l (i:Int)else gc l (i:Int)
 |0,_,i,_=>by rw[if_neg (iU i)];rfl
 |k+1,hk,i,hi=>by
  have ih:=qjG l k (by omega) i hi
  have hl:=qb7 l k
  rw[qbu,qdg (by rw[iR,hl];exact hi),List.getElem_set]
  split
  ·rename_i e;subst e;rw[if_pos (by omega)]
  ·rename_i e
   rw[qdg (by rw[hl];exact hi)]at ih
   rw[ih]
   by_cases h:i<k
   ·rw[if_pos h,if_pos (by omega)]
   ·rw[if_neg h,if_neg (by omega)]
theorem qiv (l:List Cel){i:Nat}(hi:i<l.length):gc (qet l) (i:Int)=qe3 l (i:Int):=by
 unfold qet;rw[qjG l _ (iG _) i hi,if_pos hi]
theorem wide0:qaZ 0=false:=by decide+kernel
theorem qoS:qaZ 32=false:=by decide+kernel
theorem qgy:qbN 32=true:=by decide+kernel
theorem pairedB_iff {l:List Cel}{i:Int}:qa0 l i=true↔0<=i/\i+1<(l.length:Nat)/\qaZ (gc l i).rune=true/\gc l (i+1)=⟨0,(gc l i).sty⟩:=by
 unfold qa0;simp only[ii,io,iV];constructor
 ·rintro ⟨⟨⟨a,b⟩,c⟩,d⟩;exact⟨a,b,c,d⟩
 ·rintro ⟨a,b,c,d⟩;exact⟨⟨⟨a,b⟩,c⟩,d⟩
theorem qhH {l:List Cel}{i:Int}(h1:(gc l i).rune=0->qa0 l (i-1)=true)(h2:qaZ (gc l i).rune=true->qa0 l i=true):qe3 l i=gc l i:=by
 unfold qe3;rw[if_neg];intro h;simp only[jx,ii,io,jv]at h;rcases h with h|h
 ·rw[h1 h.1]at h;cases h.2
 ·rw[h2 h.1]at h;cases h.2
theorem qgz (l:List Cel)(i:Int):qe3 l i=⟨32,(gc l i).sty⟩\/(qe3 l i=gc l i/\((gc l i).rune=0->qa0 l (i-1)=true)/\(qaZ (gc l i).rune=true->qa0 l i=true)):=by
 unfold qe3;split
 ·exact .inl rfl
 ·rename_i h
  simp only[jx,ii,io,jv,not_or,not_and]at h;exact .inr ⟨rfl,fun a=>by simpa using h.1 a,fun hw=>by simpa using h.2 hw⟩
theorem qgA {l:List Cel}{i:Int}(h:qa0 l i=true):qa0 (qet l) i=true:=by
 obtain⟨b,f,a,c⟩:=pairedB_iff.1 h;obtain⟨k,rfl⟩:=Int.eq_ofNat_of_zero_le b;have d:gc (qet l) (k:Int)=gc l (k:Int):=by
  rw[qiv l (by omega)];exact qhH (fun h=>by rw[h,wide0]at a;cases a) (fun _=>h)
 have g:gc (qet l) ((k:Int)+1)=gc l ((k:Int)+1):=by
  have e:(k:Int)+1=((k+1:Nat):Int):=by omega
  rw[e,qiv l (by omega),<-e];refine qhH (fun _=>?_) (fun hw=>?_)
  ·rw[show(k:Int)+1-1=(k:Int) by omega];exact h
  ·rw[c,wide0]at hw;cases hw
 refine pairedB_iff.2 ⟨b,by rw[qaE];exact f,by rw[d];exact a,by rw[g,d];exact c⟩
theorem qkP {l:List Cel}(h:okS l):okC (qet l):=by
 have a:∀i:Nat,i<l.length->celO (qe3 l (i:Int)):=fun i hi=>by
  have hc:=h _ (gc_mem hi);rcases qgz l (i:Int)with e|⟨e,_⟩
  ·rw[e];exact⟨hc.1,.inr qgy⟩
  ·rw[e];exact hc
 refine⟨fun c hc=>?_,wholeB_iff.2 fun i hi=>?_⟩
 ·obtain⟨i,hi,rfl⟩:=List.mem_iff_getElem.1 hc
  rw[qaE]at hi;have:=a i hi;rwa[<-qiv l hi,qdg (by rw[qaE];exact hi)]at this
 ·rw[qaE]at hi
  rw[qiv l hi];have hc:=a i hi;rcases qgz l (i:Int)with e|⟨e,b,d⟩
  ·rw[e]
   refine⟨fun h=>(by cases h),fun _=>⟨?_,fun hw=>by rw[qoS]at hw;cases hw⟩⟩;rw[e]at hc;unfold qkt;rw[hc.1,ke];exact qgy
  ·rw[e]at hc⊢
   refine⟨fun h=>qgA (b h),fun h=>⟨?_,fun hw=>qgA (d hw)⟩⟩;unfold qkt;rw[hc.1,hc.2.resolve_left h];rfl
theorem qkQ {l m:List Cel}(h:okS l)(hm:∀c∈m,c∈l):okS m:=fun c hc=>h c (hm c hc)
theorem qiw {l:List Cel}(h:okS l){i:Nat}{c:Cel}(hc:celO c):okS (l.set i c):=fun d hd=>by
 rcases jp hd with hd|rfl
 ·exact h d hd
 ·exact hc
theorem qcT {s:Sty}(h:qC s=true):celO (qA s):=by
 refine⟨?_,.inr qgy⟩;unfold qC at*;simp only[ii,io]at*;exact⟨⟨⟨Int.le_refl _,(by show(0:Int)<=8;decide)⟩,h.1.2⟩,h.2⟩
theorem qdt:qC qde=true:=by decide
theorem qdu (n:Nat){s:Sty}(h:qC s=true):okC (List.replicate n (qA s)):=by
 refine⟨fun c hc=>by rw[jB hc];exact qcT h,wholeB_iff.2 fun i hi=>?_⟩;rw[ir]at hi;have e:gc (List.replicate n (qA s)) (i:Int)=qA s:=by rw[qdg (by rw[ir];exact hi)];simp
 rw[e];refine⟨fun h=>(by cases h),fun _=>⟨?_,fun hw=>?_⟩⟩
 ·unfold qkt;rw[(qcT h).1,ke];exact qgy
 ·have hw:qaZ 32=true:=hw
  rw[qoS]at hw;cases hw
theorem putL_ok {W:Int}{l:List Cel}{x:Int}{c:Cel}(h:okS l)(hc:qkt c=true):okS (putL W l x c):=by
 unfold qkt at hc;rw[ii]at hc;unfold putL;split
 ·exact qiw (qiw h ⟨hc.2,.inr hc.1⟩) ⟨hc.2,.inl rfl⟩
 ·exact qiw h ⟨hc.2,.inr hc.1⟩
theorem qlO {l:List Cel}{a:Int}{c:Cel}(h:okS l)(hc:celO c):∀k,okS (qfM l a c k)
 |0=>h
 |k+1=>qiw (qlO h hc k) hc
theorem openL_ok {l:List Cel}{x n:Int}(h:okS l):okS (qha l x n):=qkQ h fun c hc=>by
 unfold qha at hc
 rcases iC.1 hc with hc|hc
 ·rcases iC.1 hc with hc|hc
  ·exact iS hc
  ·exact iW (iS hc)
 ·exact iW hc
theorem shutL_ok {l:List Cel}{x n:Int}(h:okS l):okS (qhb l x n):=qkQ h fun c hc=>by
 unfold qhb at hc
 rcases iC.1 hc with hc|hc
 ·rcases iC.1 hc with hc|hc
  ·exact iS hc
  ·exact iW (iS hc)
 ·exact iW hc
theorem qlP {l m:List Cel}{i:Nat}(h:i<l.length):gc (l++m) (i:Int)=gc l (i:Int):=by
 rw[qdg (by rw[hZ];omega),qdg h,kw h]
theorem qhI {l m:List Cel}{i:Int}(h:qa0 l i=true):qa0 (l++m) i=true:=by
 obtain⟨a,d,b,c⟩:=pairedB_iff.1 h;obtain⟨k,rfl⟩:=Int.eq_ofNat_of_zero_le a;have e:(k:Int)+1=((k+1:Nat):Int):=by omega
 refine pairedB_iff.2 ⟨a,by rw[hZ];omega,by rw[qlP (by omega)];exact b,?_⟩;rw[e,qlP (by omega),qlP (by omega),<-e];exact c
theorem okC_app {l:List Cel}(h:okC l)(n:Nat):okC (l++List.replicate n (qA qde)):=by
 refine⟨fun c hc=>(iC.1 hc).elim (h.1 c) fun hc=>by rw[jB hc];exact qcT qdt,wholeB_iff.2 fun i hi=>?_⟩;by_cases hl:i<l.length
 ·have:=wholeB_iff.1 h.2 i hl
  rw[qlP hl];exact⟨fun a=>qhI (this.1 a),fun a=>⟨(this.2 a).1,fun hw=>qhI ((this.2 a).2 hw)⟩⟩
 ·have e:gc (l++List.replicate n (qA qde)) (i:Int)=qA qde:=by
   rw[qdg hi,kv (by omega)];simp
  rw[e];refine⟨fun h=>(by cases h),fun _=>⟨?_,fun hw=>?_⟩⟩
  ·unfold qkt;rw[(qcT qdt).1,ke];exact qgy
  ·have hw:qaZ 32=true:=hw
   rw[qoS]at hw;cases hw
theorem fitL_ok {l:List Cel}(h:okC l)(w:Int):okC (qlz l w):=by
 unfold qlz;split
 ·exact qkP (qkQ h.1 fun c hc=>iS hc)
 ·exact okC_app h _
def okG (G:Gr):Prop:= ∀l∈G.lines,okC l
theorem qg5 {G:Gr}(h:okG G)(y:Int):okS (gl G y):=by
 unfold gl;rw[iz];cases e:G.lines[y.toNat]? with
 |none=>intro c hc;cases hc
 |some l=>exact(h l (jC e)).1
theorem qoT {G:Gr}(h:okG G)(y:Int){l:List Cel}(hl:okC l):okG (qfb G y l):=fun m hm=>by
 rcases jp hm with hm|rfl
 ·exact h m hm
 ·exact hl
theorem okG_put {G:Gr}(h:okG G)(x y:Int)(c:Cel):okG (qj9 G x y c):=by
 unfold qj9;split
 ·rename_i hc;exact qoT h y (qkP (putL_ok (qg5 h y) hc.2))
 ·exact h
theorem qjH {W:Int}{l:List Cel}{a b:Int}{s:Sty}(h:okS l)(hs:qC s=true):okC (qgk W l a b s):=qkP (qlO h (qcT hs) _)
theorem qoU {G:Gr}(h:okG G)(y a b:Int){s:Sty}(hs:qC s=true):okG (qb1 G y a b s):=by
 unfold qb1;split
 ·exact qoT h y (qjH (qg5 h y) hs)
 ·exact h
theorem okG_set2 {G:Gr}(h:okG G){x y:Int}(ht:qbA G x y=true){l:List Cel}(hl:okS l)(a b:Int){s:Sty}(hs:qC s=true):okG (qb1 (qfb G y l) y a b s):=by
 obtain⟨⟨g,d⟩,i,f⟩:=there_iff.1 ht;unfold qb1;have ht':qbA (qfb G y l) 0 y=true:=there_iff.2 ⟨⟨Int.le_refl _,d⟩,(by show(0:Int)<G.w;omega),f⟩;rw[if_pos ht'];intro m hm;have hm:m∈(G.lines.set y.toNat l).set y.toNat (qgk G.w (gl (qfb G y l) y) a b s):=hm;rw[List.set_set]at hm;rcases jp hm with hm|rfl
 ·exact h m hm
 ·refine qjH ?_ hs
  unfold gl qfb;rw[iz];cases e:(G.lines.set y.toNat l)[y.toNat]? with
  |none=>intro c hc;cases hc
  |some q=>
   rw[List.getElem?_set]at e;simp only[if_true]at e;split at e
   ·obtain rfl:=ia e;exact hl
   ·cases e
theorem up1_mem {L:List (List Cel)}{t e:Nat}{b l:List Cel}(h:l∈up1 L t e b):l=b\/l∈L:=by
 unfold up1 at h;simp only[iC,iD]at h;rcases h with((h|h)|h)|h
 ·exact .inr (iS h)
 ·exact .inr (iW (iS h))
 ·exact .inl h
 ·exact .inr (iW h)
theorem qoV {L:List (List Cel)}{t e:Nat}{b l:List Cel}(h:l∈qfN L t e b):l=b\/l∈L:=by
 unfold qfN at h;simp only[iC,iD]at h;rcases h with((h|h)|h)|h
 ·exact .inr (iS h)
 ·exact .inl h
 ·exact .inr (iW (iS h))
 ·exact .inr (iW h)
theorem qix {t e:Nat}{b l:List Cel}{L:List (List Cel)}:∀k,l∈upN t e b k L->l=b\/l∈L
 |0,h=> .inr h
 |k+1,h=>(up1_mem h).elim .inl (qix k)
theorem qgB {t e:Nat}{b l:List Cel}{L:List (List Cel)}:∀k,l∈qmL t e b k L->l=b\/l∈L
 |0,h=> .inr h
 |k+1,h=>(qoV h).elim .inl (qgB k)
theorem okG_up {G:Gr}(h:okG G)(p1 p2 n:Int){s:Sty}(hs:qC s=true):okG (upG G p1 p2 n s):=fun l hl=>(qix _ hl).elim (fun e=>e▸qdu _ hs) (h l)
theorem okG_down {G:Gr}(h:okG G)(p1 p2 n:Int){s:Sty}(hs:qC s=true):okG (qeB G p1 p2 n s):=fun l hl=>(qgB _ hl).elim (fun e=>e▸qdu _ hs) (h l)
theorem okG_new (w h:Int):okG (qku w h):=fun l hl=>by rw[jB hl];exact qdu _ qdt
theorem qnd {G:Gr}(h:okG G)(p1 p2 p3:Int):okG (qe4 G p1 p2 p3):=fun l hl=>by
 rcases iC.1 hl with hl|hl
 ·unfold qdf at hl
  obtain⟨m,hm,rfl⟩:=j5.1 hl
  exact fitL_ok (h m (iW (iS hm))) _
 ·rw[jB hl];exact qdu _ qdt
theorem qjI {l m:List (List Cel)}{P:List Cel->Prop}(h1:∀x∈l,P x)(h2:∀x∈m,P x):∀x∈qhe l m,P x:=fun x hx=>by
 have:=iW hx
 rcases iC.1 this with h|h
 ·exact h1 x h
 ·exact h2 x h
structure okD (G:Gr):Prop where
 ok:okG G
 len:G.lines.length=G.h.toNat
 wid:∀l∈G.lines,l.length=G.w.toNat
theorem okD.line {G:Gr}(h:okD G){y:Int}(hy:0<=y/\y<G.h):(gl G y).length=G.w.toNat:=by
 have hl:=h.len;have hy':y.toNat<G.lines.length:=by omega
 unfold gl;rw[iz,ig hy'];exact h.wid _ (jG hy')
theorem okD.set {G:Gr}(h:okD G)(y:Int){l:List Cel}(ho:okG (qfb G y l))(hl:l.length=G.w.toNat):okD (qfb G y l):=
 ⟨ho,by show(G.lines.set y.toNat l).length=_;rw[iR];exact h.len,fun m hm=>by
  rcases jp hm with hm|rfl
  ·exact h.wid m hm
  ·exact hl⟩
theorem okD_put {G:Gr}(h:okD G)(x y:Int)(c:Cel):okD (qj9 G x y c):=by
 have ho:=okG_put h.ok x y c;unfold qj9 at ho⊢;split
 ·rename_i hc
  rw[if_pos hc]at ho;obtain⟨⟨_,a⟩,_,b⟩:=there_iff.1 hc.1;refine h.set y ho ?_;rw[qaE];unfold putL;split<;>simp only[iR]<;>exact h.line ⟨a,b⟩
 ·exact h
theorem qgC {G:Gr}(h:okD G)(y a b:Int){s:Sty}(hs:qC s=true):okD (qb1 G y a b s):=by
 have ho:=qoU h.ok y a b hs;unfold qb1 at ho⊢;split
 ·rename_i hc
  rw[if_pos hc]at ho;obtain⟨⟨_,c⟩,_,d⟩:=there_iff.1 hc;refine h.set y ho ?_;unfold qgk;rw[qaE,qaA];exact h.line ⟨c,d⟩
 ·exact h
theorem qlQ {G:Gr}(h:okD G){x y:Int}(ht:qbA G x y=true){l:List Cel}(hl:okS l)(hn:l.length=G.w.toNat)(a b:Int){s:Sty}(hs:qC s=true):okD (qb1 (qfb G y l) y a b s):=by
 have ho:=okG_set2 h.ok ht hl a b hs;obtain⟨⟨c,d⟩,e,f⟩:=there_iff.1 ht;have hw:=qbK (qfb G y l) y a b s;refine⟨ho,?_,fun m hm=>?_⟩
 ·rw[hw.2]
  unfold qb1;split
  ·show((G.lines.set y.toNat l).set y.toNat _).length=_
   rw[iR,iR];exact h.len
  ·show(G.lines.set y.toNat l).length=_
   rw[iR];exact h.len
 ·rw[hw.1]
  have hy':y.toNat<G.lines.length:=by have:=h.len;omega
  have hg:(gl (qfb G y l) y).length=G.w.toNat:=by
   unfold gl qfb;rw[iz,jq hy'];exact hn
  unfold qb1 at hm;split at hm
  ·have hm:m∈(G.lines.set y.toNat l).set y.toNat (qgk G.w (gl (qfb G y l) y) a b s):=hm
   rw[List.set_set]at hm;rcases jp hm with hm|rfl
   ·exact h.wid m hm
   ·unfold qgk;rw[qaE,qaA];exact hg
  ·rcases jp hm with hm|rfl
   ·exact h.wid m hm
   ·exact hn
theorem qlR {G:Gr}(h:okD G)(x y n:Int){s:Sty}(hs:qC s=true):okD (qhc G x y n s):=by
 unfold qhc;split
 ·rename_i ht
  obtain⟨⟨c,a⟩,d,b⟩:=there_iff.1 ht;have hl:=h.line ⟨a,b⟩;refine qlQ h ht (openL_ok (qg5 h.ok y)) ?_ _ _ hs;unfold qha;simp only[hZ,im,iE,hl];omega
 ·exact h
theorem okD_shut {G:Gr}(h:okD G)(x y n:Int){s:Sty}(hs:qC s=true):okD (qi8 G x y n s):=by
 unfold qi8;split
 ·rename_i ht
  obtain⟨⟨c,a⟩,d,b⟩:=there_iff.1 ht;have hl:=h.line ⟨a,b⟩;refine qlQ h ht (shutL_ok (qg5 h.ok y)) ?_ _ _ hs;unfold qhb;simp only[hZ,im,iE,hl];omega
 ·exact h
theorem qkR {t e:Nat}{b:List Cel}{L:List (List Cel)}:∀k,k=0\/(t<e/\e<=L.length)->(upN t e b k L).length=L.length
 |0,_=>rfl
 |k+1,h=>by
  obtain⟨h1,h2⟩:=h.resolve_left (by omega)
  have ih:=qkR (b:=b) k (.inr ⟨h1,h2⟩)
  rw[upN,qoi h1 (by omega),ih]
theorem qjJ {t e:Nat}{b:List Cel}{L:List (List Cel)}:∀k,k=0\/(t<e/\e<=L.length)->(qmL t e b k L).length=L.length
 |0,_=>rfl
 |k+1,h=>by
  obtain⟨h1,h2⟩:=h.resolve_left (by omega)
  have ih:=qjJ (b:=b) k (.inr ⟨h1,h2⟩)
  rw[qmL,qje h1 (by omega),ih]
theorem qoW {G:Gr}(h:okD G)(p1 p2 n:Int):(cntI G p1 p2 n).toNat=0\/((qfY G p1).toNat<(qfY G p2).toNat/\(qfY G p2).toNat<=G.lines.length):=by
 rw[h.len];unfold cntI qfY;omega
theorem qoX {G:Gr}(h:okD G)(p1 p2 n:Int){s:Sty}(hs:qC s=true):okD (upG G p1 p2 n s):=
 ⟨okG_up h.ok p1 p2 n hs,(qkR _ (qoW h p1 p2 n)).trans h.len,fun l hl=>(qix _ hl).elim (fun e=>by rw[e,ir];rfl) (h.wid l)⟩
theorem qlS {G:Gr}(h:okD G)(p1 p2 n:Int){s:Sty}(hs:qC s=true):okD (qeB G p1 p2 n s):=
 ⟨okG_down h.ok p1 p2 n hs,(qjJ _ (qoW h p1 p2 n)).trans h.len,fun l hl=>(qgB _ hl).elim (fun e=>by rw[e,ir];rfl) (h.wid l)⟩
theorem qjK {t e:Nat}{b l:List Cel}{L:List (List Cel)}:∀k,(k=0\/(t<e/\e<=L.length))->l∈qjg t e b k L->l=b\/l∈L
 |0,_,h=>by cases h
 |k+1,hk,h=>by
  obtain⟨h1,h2⟩:=hk.resolve_left (by omega)
  rw[qjg]at h
  rcases iC.1 h with h|h
  ·exact qjK k (.inr ⟨h1,h2⟩) h
  ·have hlen:=qkR (b:=b) k (.inr ⟨h1,h2⟩)
   rw[iD.1 h,iz,ig (by omega)]
   exact qix k (jG _)
def okB (l:List Cel):Prop:=okC l/\l≠[]/\l.length<=60
theorem okB_of {G:Gr}(h:okD G)(hw:1<=G.w/\G.w<=60){l:List Cel}(hl:l∈G.lines):okB l:=⟨h.ok l hl,fun e=>by have:=h.wid l hl;rw[e]at this;simp at this;omega,by have:=h.wid l hl;omega⟩
theorem okD_out {G:Gr}(h:okD G)(hw:1<=G.w/\G.w<=60)(p1 p2 n:Int){s:Sty}(hs:qC s=true):∀l∈outG G p1 p2 n s,okB l:=fun l hl=>by
 rcases qjK _ (qoW h p1 p2 n) hl with rfl|hl
 ·exact⟨qdu _ hs,fun e=>by have:=congrArg List.length e;rw[ir]at this;simp at this;omega,by rw[ir];omega⟩
 ·exact okB_of h hw hl
theorem qoY (w h:Int):okD (qku w h):=⟨okG_new w h,by show(List.replicate _ _).length=_;rw[ir];rfl,fun l hl=>by rw[jB hl,ir];rfl⟩
theorem qfo {G:Gr}(h:okD G)(hh:0<=G.h)(p1 p2 p3:Int):okD (qe4 G p1 p2 p3):=by
 refine⟨qnd h.ok p1 p2 p3,?_,fun l hl=>?_⟩
 ·show(qdf _ _ _ _++List.replicate _ _).length=(qi p2).toNat
  unfold qdf;simp only[hZ,hJ,im,iE,ir,h.len];omega
 ·show l.length=(qi p1).toNat
  have a:1<=qi p1:=by unfold qi;omega
  rcases iC.1 hl with hl|hl
  ·unfold qdf at hl
   obtain⟨m,_,rfl⟩:=j5.1 hl;rw[qic (by omega)];omega
  ·rw[jB hl,ir]
theorem qhJ {G:Gr}(h:okD G):∀k,okD (qe6 G k)
 |0=>h
 |k+1=>qgC (qhJ h k) _ _ _ qdt
structure Okt (q:Bool)(W H:Int)(T:TS):Prop where
 lim:Lim W H T
 g:okD T.grid
 o:okD T.other
 b:∀l∈T.back,okB l
 cs:qC T.cursor.sty=true
 cl:q=true->T.cursor.late=true->T.cursor.x=W-1
 ss:qC T.saved.sty=true
 sl:T.saved.late=true->T.saved.x=W-1
 ay:qC T.away.sty=true
 al:T.away.late=true->T.away.x=W-1
 ti:T.title.size<=40
section
variable {q:Bool}{W H:Int}{T:TS}
theorem Okt.half (h:Okt q W H T):Okt false W H T:={h with cl:=fun e=>by cases e}
theorem Okt.cur (h:Okt q W H T){p:Bool}{c:Cur}(hc:(0<=c.x/\c.x<W)/\0<=c.y/\c.y<H)(hs:qC c.sty=true)(hl:p=true->c.late=true->c.x=W-1):Okt p W H {T with cursor:=c}:={h with lim:=h.lim.cursor hc,cs:=hs,cl:=hl}
theorem Okt.grid (h:Okt q W H T){G:Gr}(hG:G.w=T.grid.w/\G.h=T.grid.h)(hd:okD G):Okt q W H {T with grid:=G}:={h with lim:=h.lim.grid hG,g:=hd}
theorem Okt.flags (h:Okt q W H T){T':TS}(hl:Lim W H T')(e1:T'.grid=T.grid)(e2:T'.other=T.other)(e3:T'.cursor=T.cursor)(e4:T'.saved=T.saved)(e5:T'.away=T.away)(e8:T'.back=T.back)(e9:T'.title=T.title):Okt q W H T':=
 ⟨hl,by rw[e1];exact h.g,by rw[e2];exact h.o,by rw[e8];exact h.b,by rw[e3];exact h.cs,by rw[e3];exact h.cl,by rw[e4];exact h.ss,by rw[e4];exact h.sl,by rw[e5];exact h.ay,by rw[e5];exact h.al,by rw[e9];exact h.ti⟩
theorem qdv (h:Okt q W H T){p:Bool}(x y:Int):Okt p W H (qe0 T x y):=
 {h with lim:=qcc h.lim x y,cs:=h.cs,cl:=fun _ e=>by cases e}
theorem qiy (h:Okt q W H T){p:Bool}(x y:Int):Okt p W H (qeD T x y):=by
 unfold qeD;split<;>exact qdv h _ _
theorem qjL (h:Okt q W H T)(n:Int):Okt q W H (qbv T n):=by
 have hl:=qfh h.lim n;have a:=h.lim.g1;have c:=h.lim.wb;unfold qbv at hl⊢;split
 ·rename_i hc
  rw[if_pos hc]at hl;exact{h with lim:=hl,g:=qoX h.g _ _ _ h.cs,b:=qjI h.b (okD_out h.g ⟨by omega,by omega⟩ _ _ _ h.cs)}
 ·exact h.grid ⟨rfl,rfl⟩ (qoX h.g _ _ _ h.cs)
theorem qgD (h:Okt q W H T):Okt q W H (qbt T):=by
 have b:=h.lim.g1;have a:=h.lim.cu;unfold qbt;split
 ·exact qjL h 1
 ·split
  ·exact h.cur ⟨a.1,by dsimp only;omega,by dsimp only;omega⟩ h.cs h.cl
  ·exact h
theorem ok_up (h:Okt q W H T):Okt q W H (upT T):=by
 have a:=h.lim.cu;unfold upT;split
 ·exact h.grid (G:=qeB T.grid T.top T.bot 1 T.cursor.sty) ⟨rfl,rfl⟩ (qlS h.g _ _ _ h.cs)
 ·split
  ·exact h.cur ⟨a.1,by dsimp only;omega,by dsimp only;omega⟩ h.cs h.cl
  ·exact h
theorem qkS (h:Okt q W H T):Okt true W H (qbf T false):=h.cur h.lim.cu h.cs (fun _ e=>by cases e)
theorem ok_print (h:Okt q W H T)(r:Int):Okt true W H (qeE T r):=by
 have c:=h.lim.g1;have d:=h.lim.wb;have hn:=qfi T r (by omega);have hA:Okt false W H (qbP T):=by
  have b:=h.lim.cu;unfold qbP;split
  ·exact qgD (h.cur ⟨⟨by dsimp only;omega,by dsimp only;omega⟩,b.2⟩ h.cs (fun e=>by cases e))
  ·exact h.half
 have hB:Okt false W H (qbB (qbP T) (qa3 T r).2):=by
  have c:=hA.lim.g1;have b:=hA.lim.cu;unfold qbB;split
  ·split
   ·exact qgD (hA.cur ⟨⟨by dsimp only;omega,by dsimp only;omega⟩,b.2⟩ hA.cs (fun e=>by cases e))
   ·exact hA.cur ⟨⟨by dsimp only;omega,by dsimp only;omega⟩,b.2⟩ hA.cs (fun e=>by cases e)
  ·exact hA
 have hC:Okt false W H (qc7 (qbB (qbP T) (qa3 T r).2) (qa3 T r).2):=by
  unfold qc7;split
  ·exact hB.grid (qif _ _ _ _ _) (qlR hB.g _ _ _ hB.cs)
  ·exact hB
 have hD:Okt false W H (qfE (qc7 (qbB (qbP T) (qa3 T r).2) (qa3 T r).2) (qa3 T r).1):=hC.grid (putG_w _ _ _ _) (okD_put hC.g _ _ _);have a:=qjo h.lim r;unfold qeE at a⊢;generalize (qfE (qc7 (qbB (qbP T) (qa3 T r).2) (qa3 T r).2) (qa3 T r).1)=U at hD a;have hg:=hD.lim.g1;unfold qgm at a⊢;split
 ·rename_i hc
  rw[if_pos hc]at a;exact{hD with lim:=a,cs:=hD.cs,cl:=fun _ _=>by show U.grid.w-1=W-1;omega}
 ·rename_i hc
  rw[if_neg hc]at a;exact{hD with lim:=a,cs:=hD.cs,cl:=fun _ e=>by cases e}
theorem ok_exec (h:Okt true W H T)(c:Int):Okt true W H (qdo T c):=by
 have hl:=qlE h.lim c;unfold qdo at hl⊢
 repeat' split
 all_goals first|exact qdv h _ _|exact qkS (qgD h)|exact{h with lim:=h.lim.flags rfl rfl rfl rfl rfl rfl rfl rfl rfl}|exact h
theorem ok_tell (h:Okt true W H T)(c k:Int):Okt true W H (qcR T c k):=by
 refine h.flags (qlI h.lim c k) ?_ ?_ ?_ ?_ ?_ ?_ ?_
 all_goals
  unfold qcR qe2
  repeat' split
  all_goals rfl
theorem ok_clear (h:Okt true W H T)(y a b:Int){s:Sty}(hs:qC s=true):Okt true W H (qcS T y a b s):=h.grid (qbK _ _ _ _ _) (qgC h.g _ _ _ hs)
theorem qoZ (h:Okt true W H T)(k x y:Int){s:Sty}(hs:qC s=true)(i:Int):Okt true W H (qbc T k x y s i):=by
 unfold qbc
 repeat' split
 all_goals first|exact ok_clear h _ _ _ hs|exact h
theorem qp0 (h:Okt true W H T)(k x y:Int){s:Sty}(hs:qC s=true)(a:Int)(j:Nat):Okt true W H (qeL T k x y s a j):=by
 induction j with
 |zero=>exact h
 |succ j ih=>exact qoZ ih _ _ _ hs _
theorem qiz (h:Okt true W H T)(k a b:Int):Okt true W H (qgs T k a b):=qp0 h _ _ _ h.cs _ _
theorem qak {c:Prop}[Decidable c]{a b:TS}(h1:c->Okt true W H a)(h2:¬c->Okt true W H b):Okt true W H (if c then a else b):=by
 split
 ·exact h1 ‹_›
 ·exact h2 ‹_›
theorem ok_edit (h:Okt true W H T)(c n:Int)(l:List Int):Okt true W H (qbm T c n l):=by
 have hd:∀a b n,Okt true W H {T with grid:=qeB T.grid a b n T.cursor.sty}:=fun a b n=>h.grid (G:=qeB T.grid a b n T.cursor.sty) ⟨rfl,rfl⟩ (qlS h.g _ _ _ h.cs);have hu:∀a b n,Okt true W H {T with grid:=upG T.grid a b n T.cursor.sty}:=fun a b n=>h.grid (G:=upG T.grid a b n T.cursor.sty) ⟨rfl,rfl⟩ (qoX h.g _ _ _ h.cs);unfold qbm;refine qak (fun _=>h.grid (qif _ _ _ _ _) (qlR h.g _ _ _ h.cs)) fun _=>?_;refine qak (fun _=>h.grid (qos _ _ _ _ _) (okD_shut h.g _ _ _ h.cs)) fun _=>?_;refine qak (fun _=>h.grid (qbK _ _ _ _ _) (qgC h.g _ _ _ h.cs)) fun _=>?_;refine qak (fun _=>qiz h _ _ _) fun _=>?_;refine qak (fun _=>qak (fun _=>qiz (T:={T with back:=[]}) {h with lim:={h.lim with bk:=by simp},b:=fun l hl=>by cases hl} _ _ _) fun _=>qiz h _ _ _) fun _=>?_;refine qak (fun _=>qak (fun _=>hd _ _ _) fun _=>h) fun _=>?_;refine qak (fun _=>qak (fun _=>hu _ _ _) fun _=>h) fun _=>?_;refine qak (fun _=>qjL h _) fun _=>?_;refine qak (fun _=>hd _ _ _) fun _=>?_;exact ok_tell h _ _
theorem qne {s:Sty}(h:qC s=true)(n:Int):qC (qq s n)=true:=by
 unfold qC at*;simp only[ii,io]at*;unfold qq
 repeat' split
 all_goals first|exact h|(show(((_:Prop)/\_)/\_)/\_;dsimp only[qde];omega)
theorem qkT {s:Sty}(h:qC s=true)(l:List Int):qC (qcv s l)=true:=by
 unfold qcv;generalize (if l=[]then[0]else l)=m
 induction m generalizing s with
 |nil=>exact h
 |cons n m ih=>exact ih (qne h n)
theorem ok_plain (h:Okt true W H T)(c:Int)(l:List Int):Okt true W H (qav T c l):=by
 have b:=h.lim.g1;have hp:=qdO l 0;unfold qav;refine qak (fun _=>qdv h _ _) fun _=>?_;refine qak (fun _=>qdv h _ _) fun _=>?_;refine qak (fun _=>qdv h _ _) fun _=>?_;refine qak (fun _=>qdv h _ _) fun _=>?_;refine qak (fun _=>qdv h _ _) fun _=>?_;refine qak (fun _=>qiy h _ _) fun _=>?_;refine qak (fun _=>qiy h _ _) fun _=>?_;refine qak (fun _=>h.cur h.lim.cu (qkT h.cs l) h.cl) fun _=>?_;refine qak (fun _=>qak (fun a=>qiy (q:=true) (h.flags (qhB h.lim ⟨hp,a,?_⟩) rfl rfl rfl rfl rfl rfl rfl) _ _) fun _=>h) fun _=>ok_edit h _ _ _;split<;>omega
theorem ok_turn (h:Okt true W H T)(b:Bool):Okt true W H (qkL T b):=by
 have hl:=qlJ h.lim b;unfold qkL at hl⊢;split
 ·exact h
 ·rename_i hc
  rw[if_neg hc]at hl;split
  ·rename_i hb
   rw[if_pos hb]at hl;exact⟨hl,qhJ h.o _,h.g,h.b,h.cs,h.cl,h.ss,h.sl,h.cs,h.cl rfl,h.ti⟩
  ·rename_i hb
   rw[if_neg hb]at hl;exact⟨hl,h.o,h.g,h.b,h.ay,fun _=>h.al,h.ss,h.sl,h.cs,h.cl rfl,h.ti⟩
theorem ok_mode (h:Okt true W H T)(n:Int)(b:Bool):Okt true W H (qbn T n b):=by
 unfold qbn;split
 ·exact qiy (q:=true) (T:={T with origin:=b}) (h.flags (h.lim.flags rfl rfl rfl rfl rfl rfl rfl rfl rfl) rfl rfl rfl rfl rfl rfl rfl) _ _
 split
 ·exact{h with lim:={h.lim.cursor (c:=⟨T.cursor.x,T.cursor.y,T.cursor.late&&b,T.cursor.sty⟩) h.lim.cu with},cs:=h.cs,cl:=fun e a=>h.cl e (by have a:(T.cursor.late&&b)=true:=a;rw[ii]at a;exact a.1)}
 split
 ·exact h.flags (h.lim.flags rfl rfl rfl rfl rfl rfl rfl rfl rfl) rfl rfl rfl rfl rfl rfl rfl
 split
 ·exact ok_turn h b
 ·exact h
theorem ok_modes (h:Okt true W H T)(l:List Int)(b:Bool):Okt true W H (l.foldl (fun T n=>qbn T n b) T):=by
 induction l generalizing T with
 |nil=>exact h
 |cons n l ih=>exact ih (ok_mode h n b)
theorem ok_csi (h:Okt true W H T)(a:Ac):Okt true W H (qlG T a):=by
 unfold qlG;split
 ·exact ok_plain h _ _
 split
 ·exact ok_modes h _ _
 ·exact h
theorem qlT (T:TS)(w h:Int)(hr:T.reply.size<=400):Okt true (qi w) (qi h) (startT T w h):=
 ⟨qeM T w h hr,qoY w h,qoY w h,fun l hl=>(by cases hl),qdt,fun _ e=>(by cases e),qdt,fun e=>(by cases e),qdt,fun e=>(by cases e),il _⟩
theorem ok_esc (h:Okt true W H T)(a:Ac):Okt true W H (qh6 T a):=by
 have hf:∀{T':TS},Lim W H T'->T'.grid=T.grid->T'.other=T.other->T'.cursor=T.cursor->T'.saved=T.saved->T'.away=T.away->T'.back=T.back->T'.title=T.title->Okt true W H T':=fun hl=>h.flags hl;unfold qh6;refine qak (fun _=>qak (fun _=>hf (h.lim.flags rfl rfl rfl rfl rfl rfl rfl rfl rfl) rfl rfl rfl rfl rfl rfl rfl) fun _=>h) fun _=>?_;refine qak (fun _=>qak (fun _=>hf (h.lim.flags rfl rfl rfl rfl rfl rfl rfl rfl rfl) rfl rfl rfl rfl rfl rfl rfl) fun _=>h) fun _=>?_;refine qak (fun _=>h) fun _=>?_;refine qak (fun _=>{h with lim:={h.lim with sa:=h.lim.cu},ss:=h.cs,sl:=h.cl rfl}) fun _=>?_;refine qak (fun _=>{h with lim:={h.lim with cu:=h.lim.sa},cs:=h.ss,cl:=fun _=>h.sl}) fun _=>?_;refine qak (fun _=>qkS (qgD h)) fun _=>?_;refine qak (fun _=>qdv (qgD h) _ _) fun _=>?_;refine qak (fun _=>qkS (ok_up h)) fun _=>?_;refine qak (fun _=>hf (h.lim.flags rfl rfl rfl rfl rfl rfl rfl rfl rfl) rfl rfl rfl rfl rfl rfl rfl) fun _=>?_;refine qak (fun _=>?_) fun _=>h;have:=qlT T T.grid.w T.grid.h h.lim.rp;rw[h.lim.g1.1,h.lim.g1.2,qg4 h.lim.wb,qg4 h.lim.hb]at this;rw[h.lim.g1.1,h.lim.g1.2];exact this
theorem ok_osc (h:Okt true W H T){a:Ac}(ha:AcOk a):Okt true W H (qlH T a):=by
 unfold qlH;split
 ·exact{h with lim:=h.lim.flags rfl rfl rfl rfl rfl rfl rfl rfl rfl,ti:=by show(a.text.extract _ _).size<=40;rw[k6];have:=ha.t;omega}
 ·exact h
theorem ok_act (h:Okt true W H T){a:Ac}(ha:AcOk a):Okt true W H (qek T a):=by
 unfold qek;split
 ·exact ok_print h _
 split
 ·exact ok_exec h _
 split
 ·exact ok_esc h a
 split
 ·exact ok_csi h a
 split
 ·exact ok_osc h ha
 ·exact h
theorem ok_acts (h:Okt true W H T)(l:List Ac)(hl:∀a∈l,AcOk a):Okt true W H (l.foldl qek T):=by
 induction l generalizing T with
 |nil=>exact h
 |cons a l ih=>exact ih (ok_act h (hl a (jc ..))) fun b hb=>hl b (j4 _ hb)
theorem ok_feed (h:Okt true W H T)(hp:T.parser.lim){c:Int}(hc:0<=c/\c<=255):Okt true W H (qjA T c):=
 ok_acts (T:={T with parser:=(qbl T.parser c).1}) (h.flags (qfn h.lim _) rfl rfl rfl rfl rfl rfl rfl) _ (qip hp hc).2
theorem qjM (h:Okt true W H T)(hp:T.parser.lim)(s:ByteArray):∀k,Okt true W H (qds T s k)/\(qds T s k).parser.lim
 |0=>⟨h,hp⟩
 |k+1=>by
  obtain⟨h1,h2⟩:=qjM h hp s k
  exact⟨ok_feed h1 h2 (qd2 s _),qdQ hp s (k+1)⟩
theorem ok_write (h:Okt true W H T)(hp:T.parser.lim)(s:ByteArray):Okt true W H (qgx T s):=(qjM h hp s _).1
end
theorem qiA {c:Cur}{w h:Int}(hw:1<=w):(fixC c w h).late=true->(fixC c w h).x=w-1:=fun e=>by
 have e:(c.late&&((c.x:Int)==w-1))=true:=e
 rw[ii,iV]at e
 show min c.x (w-1)=w-1
 omega
theorem qp1 {W H:Int}{T:TS}(h:Okt true W H T)(p1 p2:Int):Okt true (qi p1) (qi p2) (qcH T p1 p2):=by
 have hl:=qhG h.lim p1 p2;obtain⟨d,f,i,j,k,m,n⟩:=rs2_f T p1 p2;have p:=h.lim.g1;have r:=h.lim.g2;have hw:=h.lim.wb;have hh:=h.lim.hb;have s:1<=qi p1:=by unfold qi;omega
 have a:okD (rs1 T p1 p2).grid/\(rs1 T p1 p2).other=T.other/\(∀l∈(rs1 T p1 p2).back,okB l)/\(rs1 T p1 p2).title=T.title:=by
  unfold rs1;split
  ·exact⟨qfo h.g (by omega) _ _ _,rfl,h.b,rfl⟩
  ·exact⟨qfo h.g (by omega) _ _ _,rfl,qjI h.b fun l hl=>okB_of h.g ⟨by omega,by omega⟩ (iS hl),rfl⟩
 have c:(rs2 T p1 p2).grid.w=qi p1:=j;refine⟨hl,a.1,?_,a.2.2.1,?_,fun _ e=>?_,?_,fun e=>?_,?_,fun e=>?_,?_⟩
 ·show okD (qe4 (rs1 T p1 p2).other p1 (qjE p2) 0)
  rw[a.2.1];exact qfo h.o (by omega) _ _ _
 ·show qC (rs2 T p1 p2).cursor.sty=true;rw[d];exact h.cs
 ·have:=qiA (w:=(rs2 T p1 p2).grid.w) (by omega) e;rw[<-c];exact this
 ·show qC (rs2 T p1 p2).saved.sty=true;rw[f];exact h.ss
 ·have:=qiA (w:=(rs2 T p1 p2).grid.w) (by omega) e;rw[<-c];exact this
 ·show qC (rs2 T p1 p2).away.sty=true;rw[i];exact h.ay
 ·have:=qiA (w:=(rs2 T p1 p2).grid.w) (by omega) e;rw[<-c];exact this
 ·show(rs1 T p1 p2).title.size<=40;rw[a.2.2.2];exact h.ti
theorem ok_do {W H:Int}{T:TS}(h:Okt true W H T)(hp:T.parser.lim)(x:Stp):∃W' H',Okt true W' H' (doT T x):=by
 unfold doT;split
 ·exact⟨W,H,ok_write h hp _⟩
 ·exact⟨_,_,qp1 h _ _⟩
def qaw (l:List Int):Prop:= ∀x∈l,0<=x/\x<=255
def qh7:Nat->Nat->List Int
 |0,n=>[(n:Int)]
 |f+1,n=>if n<128 then[(n:Int)]else((n % 128+128:Nat):Int)::qh7 f (n/128)
abbrev qw (n:Nat):List Int:=qh7 9 n
def qdi:Nat->Nat->List Int->Nat×Nat
 |_,_,[]=>(0,0)
 |i,n,c::r=>
  if(i=9/\1<c)\/9<i then(0,0)
  else if c<128 then(if c=0/\0<i then(0,0)else(n+c.toNat % 128*128^i,i+1))
  else qdi (i+1) (n+c.toNat % 128*128^i) r
abbrev qa4 (l:List Int):Nat×Nat:=qdi 0 0 l
theorem qcg {f n:Nat}(h:n<128):qh7 f n=[(n:Int)]:=by
 cases f with
 |zero=>rfl
 |succ f=>rw[qh7,if_pos h]
theorem qdR {f n:Nat}(h:¬n<128):qh7 (f+1) n=((n % 128+128:Nat):Int)::qh7 f (n/128):=by rw[qh7,if_neg h]
theorem qp2 (f n:Nat):qh7 f n≠[]:=by
 cases f with
 |zero=>exact kd _ _
 |succ f=>rw[qh7];split<;>exact kd _ _
theorem qlU (m i:Nat):m*128^(i+1)=128*m*128^i:=by
 rw[Nat.pow_succ,Nat.mul_comm 128 m,Nat.mul_assoc,Nat.mul_comm (128^i)]
theorem qnf:∀(ys:List Int) (i acc n k:Nat),qaw ys->i<=9->qdi i acc ys=(n,k)->k=0\/
  ∃m zs,n=acc+m*128^i/\ys=qh7 (9-i) m++zs/\k=i+(qh7 (9-i) m).length/\(0<i->0<m)/\m<2^(64-7*i):=by
 intro ys
 induction ys with
 |nil=>
  intro i acc n k _ _ h;rw[qdi]at h;exact .inl (iB h).2.symm
 |cons c r ih=>
  intro i acc n k hb hi h;have hc:=hb c (jc ..);rw[qdi]at h;split at h
  ·exact .inl (iB h).2.symm
  ·rename_i l
   split at h
   ·rename_i d
    split at h
    ·exact .inl (iB h).2.symm
    ·rename_i o
     obtain⟨rfl,rfl⟩:=iB h;have hs:c.toNat<128:=by omega
     refine .inr ⟨c.toNat,r,by rw[jW hs],?_,?_,fun b=>by omega,?_⟩
     ·rw[qcg hs];simp;omega
     ·rw[qcg hs];rfl
     ·rcases iN i 9 with a|a
      ·have:2^8<=2^(64-7*i):=jT (by decide) (by omega)
       omega
      ·obtain rfl:i=9:=by omega
       show c.toNat<2;omega
   ·rename_i d
    have a:i+1<=9:=by omega
    rcases ih (i+1) _ n k (fun x hx=>hb x (j4 _ hx)) a h with b|⟨m,zs,e,f,g,j,p⟩
    ·exact .inl b
    ·have q:=j (Nat.succ_pos i)
     have hm:¬c.toNat % 128+128*m<128:=by omega
     have hf:9-i=(9-(i+1))+1:=by omega
     have hd:(c.toNat % 128+128*m)/128=m:=by omega
     have hr:(c.toNat % 128+128*m)% 128+128=c.toNat:=by omega
     refine .inr ⟨c.toNat % 128+128*m,zs,?_,?_,?_,fun _=>by omega,?_⟩
     ·rw[e,qlU,Nat.add_mul];omega
     ·rw[hf,qdR hm,hd,hr,f]
      simp;omega
     ·rw[hf,qdR hm,hd,g,iy];omega
     ·have:2^(64-7*i)=128*2^(64-7*(i+1)):=by
       rw[show 64-7*i=(64-7*(i+1))+7 by omega,Nat.pow_add];omega
      rw[this];omega
theorem qp3:∀(f i acc m:Nat) (r:List Int),f=9-i->i<=9->m<2^(64-7*i)->(0<i->0<m)->qdi i acc (qh7 f m++r)=(acc+m*128^i,i+(qh7 f m).length):=by
 intro f
 induction f with
 |zero=>
  intro i acc m r hf hi hm a;obtain rfl:i=9:=by omega
  have b:m<2:=hm;show qdi 9 acc ((m:Int)::r)=_;rw[qdi,if_neg (by omega),if_pos (by omega),if_neg (by omega)];have e:(m:Int).toNat % 128=m:=by omega
  rw[e];rfl
 |succ f ih=>
  intro i acc m r hf hi hm a;by_cases hs:m<128
  ·rw[qcg hs]
   show qdi i acc ((m:Int)::r)=_;rw[qdi,if_neg (by omega),if_pos (by omega),if_neg (by omega)];have e:(m:Int).toNat % 128=m:=by omega
   rw[e];rfl
  ·rw[qdR hs]
   show qdi i acc (((m % 128+128:Nat):Int)::(qh7 f (m/128)++r))=_;rw[qdi,if_neg (by omega),if_neg (by omega)];have e:((m % 128+128:Nat):Int).toNat % 128=m % 128:=by omega
   have hp:2^(64-7*i)=128*2^(64-7*(i+1)):=by
    rw[show 64-7*i=(64-7*(i+1))+7 by omega,Nat.pow_add];omega
   rw[ih (i+1) _ (m/128) r (by omega) (by omega) (by rw[hp]at hm;omega) (fun _=>by omega),e,qlU,iy];refine Prod.ext ?_ (by show i+1+_=i+(_+1);omega);show acc+m % 128*128^i+128*(m/128)*128^i=acc+m*128^i;rw[jR,<-Nat.add_mul];congr 2;omega
theorem qjN:∀(f n:Nat),n<128^(f+1)->qaw (qh7 f n)
 |0,n,h=>fun x hx=>by
  rw[iD.1 hx]
  have:n<128:=h
  omega
 |f+1,n,h=>fun x hx=>by
  by_cases hs:n<128
  ·rw[qcg hs]at hx
   rw[iD.1 hx];omega
  ·rw[qdR hs]at hx
   rcases j8.1 hx with rfl|hx
   ·omega
   ·exact qjN f (n/128) (by rw[Nat.pow_succ]at h;omega) x hx
theorem qhK {ys:List Int}{n k:Nat}(hb:qaw ys)(h:qa4 ys=(n,k)):k=0\/(ys=qw n++ys.drop k/\k<=ys.length/\n<2^64):=by
 rcases qnf ys 0 0 n k hb (by decide) h with c|⟨m,zs,d,a,b,_,f⟩
 ·exact .inl c
 ·right
  have e:n=m:=by rw[d];simp
  subst e;rw[iJ]at b;refine⟨?_,?_,f⟩
  ·rw[b]
   conv=>rhs;rw[a]
   rw[List.drop_left' rfl];exact a
  ·rw[b,a,hZ];exact Nat.le_add_right _ _
theorem qlV {ys:List Int}(hb:qaw ys):(qa4 ys).2<=ys.length/\(qa4 ys).1<2^64:=by
 rcases qhK hb (rfl:qa4 ys=((qa4 ys).1,(qa4 ys).2))with h|h
 ·refine⟨by rw[h];exact il _,?_⟩
  have:∀(ys:List Int) (i a:Nat),(qdi i a ys).2=0->(qdi i a ys).1=0:=by
   intro ys
   induction ys with
   |nil=>intro i a _;rfl
   |cons c r ih=>
    intro i a h;rw[qdi]at h⊢;split
    ·rfl
    ·rename_i d
     rw[if_neg d]at h;split
     ·rename_i b
      rw[if_pos b]at h;split
      ·rfl
      ·rename_i e
       rw[if_neg e]at h;cases h
     ·rename_i b
      rw[if_neg b]at h;exact ih _ _ h
  rw[this ys 0 0 h];decide
 ·exact h.2
theorem qjO {n:Nat}(r:List Int)(h:n<2^64):qa4 (qw n++r)=(n,(qw n).length):=by
 have:=qp3 9 0 0 n r rfl (by decide) h (fun h=>by cases h);exact this.trans (by simp)
abbrev RS:=Option (List Int)
def qO (lim:Int):RS->Int×RS
 |none=>(0,none)
 |some ys=>if(qa4 ys).2=0\/9223372036854775807<(qa4 ys).1\/(0<lim/\lim<=((qa4 ys).1:Int))then(0,none)else(((qa4 ys).1:Int),some (ys.drop (qa4 ys).2))
def qb8 (most:Int)(s:RS):ByteArray×RS:=
 match qO (if 0<most then most+1 else 1) s with
 |(_,none)=>(E0,none)
 |(n,some ys)=>if(ys.length:Int)<n then(E0,none)else(qf (ys.take n.toNat),some (ys.drop n.toNat))
def qaT (s:ByteArray):List Int:=s.data.toList.map fun b=>(b.toNat:Int)
def qbr (s:ByteArray):List Int:=qw s.size++qaT s
theorem qeS (s:ByteArray):(qaT s).length=s.size:=by simp[qaT]
theorem qgE (s:ByteArray):qaw (qaT s):=fun x hx=>by
 obtain⟨b,_,rfl⟩:=j5.1 hx
 have:=b.toNat_lt
 omega
theorem qcz (l:List Int):(qf l).data.toList=l.map fun n=>UInt8.ofNat n.toNat:=by
 have h:∀(l:List Int) (r:ByteArray),(l.foldl (fun r n=>r.push (UInt8.ofNat n.toNat)) r).data.toList=r.data.toList++l.map fun n=>UInt8.ofNat n.toNat:=by
  intro l
  induction l with
  |nil=>intro r;simp
  |cons c l ih=>intro r;rw[List.foldl_cons,ih];simp[ByteArray.push]
 have:=h l ByteArray.empty;simpa[qf]using this
theorem qiB {l:List Int}(h:qaw l):qaT (qf l)=l:=by
 unfold qaT;rw[qcz,jE];refine(ju fun x hx=>?_).trans (List.map_id _);have:=h x hx;show(((UInt8.ofNat x.toNat).toNat:Nat):Int)=x;rw[UInt8.toNat_ofNat_of_lt' (show x.toNat<UInt8.size by show x.toNat<256;omega)];omega
theorem qbs (l:List Int):(qf l).size=l.length:=by
 have:=congrArg List.length (qcz l);simpa using this
theorem qdw {l:List Int}(h:qaw l)(k:Nat):qaw (l.drop k):=fun x hx=>h x (iW hx)
theorem qp4 {l:List Int}(h:qaw l)(k:Nat):qaw (l.take k):=fun x hx=>h x (iS hx)
theorem qj {l m:List Int}(h:qaw l)(h':qaw m):qaw (l++m):=fun x hx=>(iC.1 hx).elim (h x) (h' x)
def rsB (s:RS):Prop:= ∀ys,s=some ys->qaw ys
theorem qa8 {lim:Int}{s:RS}{n:Int}{zs:List Int}(hs:rsB s)(h:qO lim s=(n,some zs)):∃ys,s=some ys/\ys=qw n.toNat++zs/\0<=n/\n<=9223372036854775807/\(0<lim->n<lim):=by
 cases s with
 |none=>cases h
 |some ys=>
  refine⟨ys,rfl,?_⟩;rw[qO]at h;split at h
  ·cases h
  ·rename_i b
   obtain⟨rfl,e⟩:=iB h;obtain rfl:=ia e;rcases qhK (hs ys rfl) (rfl:qa4 ys=((qa4 ys).1,(qa4 ys).2))with a|⟨a,c,d⟩
   ·exact absurd (.inl a) b
   ·exact⟨by rw[ik];exact a,by omega,by omega,fun hl=>by omega⟩
theorem qE {lim:Int}{s:RS}(hs:rsB s):rsB (qO lim s).2:=by
 cases s with
 |none=>exact hs
 |some ys=>
  rw[qO];split
  ·intro ys h;cases h
  ·intro zs h
   obtain rfl:=ia h;exact qdw (hs ys rfl) _
theorem qa9 {lim:Int}{s:RS}:0<=(qO lim s).1/\(qO lim s).1<=9223372036854775807/\(0<lim->(qO lim s).1<lim):=by
 cases s with
 |none=>exact⟨Int.le_refl 0,(by decide:(0:Int)<=9223372036854775807),fun h=>h⟩
 |some ys=>
  rw[qO];split
  ·exact⟨Int.le_refl 0,(by decide:(0:Int)<=9223372036854775807),fun h=>h⟩
  ·exact⟨by omega,by omega,fun h=>by omega⟩
theorem qcU {most:Int}{s:RS}{x:ByteArray}{zs:List Int}(hs:rsB s)(h:qb8 most s=(x,some zs))(h0:0<most):∃ys,s=some ys/\ys=qbr x++zs/\(x.size:Int)<=most:=by
 unfold qb8 at h;rw[if_pos h0]at h;split at h
 ·cases h
 ·rename_i n ys e
  split at h
  ·cases h
  ·rename_i d
   obtain⟨rfl,b⟩:=iB h;obtain rfl:=ia b;obtain⟨us,rfl,a,f,g,c⟩:=qa8 hs e;have hb:qaw ys:=by
    have:=hs us rfl;rw[a]at this;exact fun x hx=>this x (k8 _ hx)
   have hz:(qf (ys.take n.toNat)).size=n.toNat:=by rw[qbs,im];omega
   refine⟨us,rfl,?_,by rw[hz];have:=c (by omega);omega⟩;unfold qbr;rw[hz,qiB (qp4 hb _),ie,iY];exact a
theorem qdS {most:Int}{s:RS}(hs:rsB s):rsB (qb8 most s).2:=by
 unfold qb8;split
 ·intro ys h;cases h
 ·rename_i n ys e
  split
  ·intro ys h;cases h
  ·intro zs h
   obtain rfl:=ia h;have:=qE (lim:=if 0<most then most+1 else 1) hs;rw[e]at this;exact qdw (this ys rfl) _
theorem or64 {a b k:Nat}(ha:a<2^k)(hb:∃c,b=c*2^k)(hs:a+b<2^64):qe .or .u64 (a:Int) (b:Int)=((a+b:Nat):Int):=by
 obtain⟨c,rfl⟩:=hb;have e:(BitVec.ofInt 64 (a:Int)|||BitVec.ofInt 64 ((c*2^k:Nat):Int)).toNat=a+c*2^k:=by
  rw[BitVec.ofInt_natCast,BitVec.ofInt_natCast,BitVec.toNat_or,BitVec.toNat_ofNat,BitVec.toNat_ofNat,jW (by omega),jW (by omega),Nat.or_comm,<-Nat.shiftLeft_eq,<-Nat.shiftLeft_add_eq_or_of_lt ha,Nat.shiftLeft_eq];omega
 show IntKind.wrap .u64 ((BitVec.ofInt 64 (a:Int)|||BitVec.ofInt 64 ((c*2^k:Nat):Int)).toNat:Int)=_;rw[e];exact qbk ⟨by omega,by omega⟩
theorem qp5 {n:Nat}(h:n<2^64):IntKind.wrap .u64 (n:Int)=(n:Int):=qbk ⟨by omega,by omega⟩
theorem qp6 (i:Nat):2^(7*i)=128^i:=by rw[Nat.pow_mul]
theorem qp7 {i:Nat}(h:i<=9):128^i<=128^9:=jT (by decide) h
abbrev orT (n c:Int)(i:Nat):Int:=qe .or .u64 n (IntKind.wrap .u64 (IntKind.wrap .u64 (qe .and .u8 c 127)*2^min (7*(i:Int):Int).toNat (IntKind.bits .u64)))
theorem and127:∀c,c<256->qe .and .u8 (c:Nat) 127=((c % 128:Nat):Int):=by decide+kernel
theorem orT_eq {n i:Nat}{c:Int}(hc:0<=c/\c<=255)(hi:i<=9)(h9:i=9->c<=1)(hn:n<128^i):orT (n:Int) c i=((n+c.toNat % 128*128^i:Nat):Int):=by
 have a:qe .and .u8 c 127=((c.toNat % 128:Nat):Int):=by
  have:=and127 c.toNat (by omega);rwa[j7 hc.1]at this
 have hp:=qp7 hi;have hb:c.toNat % 128*128^i<=128^9:=by
  rcases iN i 9 with h|h
  ·have b:128^i<=128^8:=jT (by decide) (by omega)
   calc c.toNat % 128*128^i<=128*128^8:=Nat.mul_le_mul (by omega) b
    _=128^9:=by decide
  ·have:=h9 (by omega)
   calc c.toNat % 128*128^i<=1*128^9:=Nat.mul_le_mul (by omega) hp
    _=128^9:=by decide
 have d:(2:Int)^min (7*(i:Int):Int).toNat (IntKind.bits .u64)=((128^i:Nat):Int):=by
  rw[show min (7*(i:Int):Int).toNat (IntKind.bits .u64)=7*i by show min _ 64=_;omega,<-qp6]
  norm_cast
 have e:(2:Nat)^64=2*128^9:=by decide
 unfold orT;rw[a,qp5 (by omega),d,<-Int.natCast_mul,qp5 (by omega)];refine or64 (k:=7*i) (by rw[qp6];exact hn) ⟨c.toNat % 128,by rw[qp6]⟩ (by omega)
def qdj:Nat->Int->List Int->Int×Int
 |_,_,[]=>(0,0)
 |i,n,c::r=>
  if(i=9/\1<c)\/9<i then(0,0)
  else if c<128 then(if c=0/\0<i then(0,0)else(orT n c i,(i:Int)+1))
  else qdj (i+1) (orT n c i) r
theorem takeG_eq:∀(ys:List Int) (i n:Nat),qaw ys->n<128^i->qdj i (n:Int) ys=(((qdi i n ys).1:Int),((qdi i n ys).2:Int)):=by
 intro ys
 induction ys with
 |nil=>intro i n _ _;rfl
 |cons c r ih=>
  intro i n hb hn;have hc:=hb c (jc ..);rw[qdj,qdi];by_cases a:(i=9/\1<c)\/9<i
  ·rw[if_pos a,if_pos a];rfl
  ·rw[if_neg a,if_neg a,orT_eq hc (by omega) (by omega) hn]
   by_cases b:c<128
   ·rw[if_pos b,if_pos b]
    by_cases d:c=0/\0<i
    ·rw[if_pos d,if_pos d];rfl
    ·rw[if_neg d,if_neg d];simp
   ·rw[if_neg b,if_neg b]
    refine ih (i+1) _ (fun x hx=>hb x (j4 _ hx)) ?_;have:c.toNat % 128*128^i<=127*128^i:=Nat.mul_le_mul_right _ (by omega);rw[Nat.pow_succ];omega
theorem qcI {ys:List Int}(h:qaw ys):qdj 0 0 ys=(((qa4 ys).1:Int),((qa4 ys).2:Int)):=takeG_eq ys 0 0 h (by decide)
abbrev shr7 (n:Int):Int:=Int.fdiv n (2^min (7:Int).toNat (IntKind.bits .u64))
abbrev low7 (n:Int):Int:=qe .or .u8 (IntKind.wrap .u8 n) 128
theorem shr7_eq (n:Nat):shr7 (n:Int)=((n/128:Nat):Int):=by
 show Int.fdiv (n:Int) 128=_;rw[jV _ (by decide)];omega
theorem or128:∀c,c<256->qe .or .u8 (c:Nat) 128=((c % 128+128:Nat):Int):=by decide+kernel
theorem wrap8 (n:Nat):IntKind.wrap .u8 (n:Int)=((n % 256:Nat):Int):=by
 simp[IntKind.wrap,IntKind.bits,IntKind.signed]
theorem low7_eq (n:Nat):low7 (n:Int)=((n % 128+128:Nat):Int):=by
 unfold low7;rw[wrap8,or128 _ (Nat.mod_lt _ (by decide)),Nat.mod_mod_of_dvd _ (by decide)]
def qai (f:Nat->Bool):Nat->Nat
 |0=>0
 |k+1=>qai f k+if f k=true then 2^k else 0
def lb (l:List Bool)(i:Nat):Bool:=l.getD i false
def qab (l:List Bool):Nat:=qai (lb l) l.length
theorem qby (f:Nat->Bool):∀k,qai f k<2^k
 |0=>Nat.one_pos
 |k+1=>by
  have:=qby f k
  rw[qai,Nat.pow_succ]
  split<;>omega
theorem qcA {f g:Nat->Bool}:∀{k:Nat},(∀i,i<k->f i=g i)->qai f k=qai g k
 |0,_=>rfl
 |k+1,h=>by rw[qai,qai,h k (Nat.lt_succ_self k),qcA fun i hi=>h i (Nat.lt_succ_of_lt hi)]
abbrev orF (n:Int)(i:Nat):Int:=qe .or .u64 n (IntKind.wrap .u64 (1*2^min (i:Int).toNat (IntKind.bits .u64)))
theorem orF_eq {n i:Nat}(hi:i<64)(hn:n<2^i):orF (n:Int) i=((n+2^i:Nat):Int):=by
 have hp:2^i<=2^63:=jT (by decide) (by omega);have a:(2:Int)^min (i:Int).toNat (IntKind.bits .u64)=((2^i:Nat):Int):=by
  rw[show min (i:Int).toNat (IntKind.bits .u64)=i by show min _ 64=_;omega]
  norm_cast
 unfold orF;rw[a,Int.one_mul,qp5 (by omega)];exact or64 (k:=i) hn ⟨1,by rw[Nat.one_mul]⟩ (by omega)
def qel (n i:Nat):Bool:=n/2^i % 2==1
theorem qfp (n:Nat):∀k,qai (qel n) k=n % 2^k
 |0=>by rw[qai];omega
 |k+1=>by
  rw[qai,qfp n k,Nat.pow_succ,Nat.mod_mul]
  unfold qel
  have:=kq (n/2^k)
  rcases this with h|h<;>rw[h]<;>simp
theorem and1_eq (k:IntKind)(hk:k= .i64\/k= .u64)(n:Nat)(h:n<2^63):qe .and k (n:Int) 1=((n % 2:Nat):Int):=by
 have e:(BitVec.ofInt 64 (n:Int)&&&BitVec.ofInt 64 1).toNat=n % 2:=by
  rw[BitVec.ofInt_natCast,BitVec.toNat_and,BitVec.toNat_ofNat,jW (by omega)];exact Nat.and_one_is_mod n
 rcases hk with rfl|rfl
 ·show IntKind.wrap .i64 ((BitVec.ofInt 64 (n:Int)&&&BitVec.ofInt 64 1).toNat:Int)=_
  rw[e];exact qbk ⟨by omega,by omega⟩
 ·show IntKind.wrap .u64 ((BitVec.ofInt 64 (n:Int)&&&BitVec.ofInt 64 1).toNat:Int)=_
  rw[e];exact qbk ⟨by omega,by omega⟩
theorem bit_eq (k:IntKind)(hk:k= .i64\/k= .u64){n i:Nat}(h:n<2^63)(hi:i<64):((qe .and k (Int.fdiv (n:Int) (2^min (i:Int).toNat (IntKind.bits k))) 1:Int)==1)=qel n i:=by
 have e:Int.fdiv (n:Int) (2^min (i:Int).toNat (IntKind.bits k))=((n/2^i:Nat):Int):=by
  have a:(2:Int)^min (i:Int).toNat (IntKind.bits k)=((2^i:Nat):Int):=by
   rw[show min (i:Int).toNat (IntKind.bits k)=i by rcases hk with rfl|rfl<;>(show min _ 64=_;omega)]
   norm_cast
  rw[a,jV _ (Int.natCast_nonneg _)]
  norm_cast
 rw[e,and1_eq k hk _ (Nat.lt_of_le_of_lt (Nat.div_le_self _ _) h)];unfold qel;have:=kq (n/2^i);rcases this with h|h<;>rw[h]<;>rfl
def qbE (s:Sty):Nat:=s.fore.toNat+16*s.back.toNat+(if s.bold=true then 256 else 0)+(if s.under=true then 512 else 0)+if s.turned=true then 1024 else 0
def qjP (n:Nat):Sty:=⟨n/256 % 2==1,n/512 % 2==1,n/1024 % 2==1,((n % 16:Nat):Int),((n/16 % 16:Nat):Int)⟩
theorem qkU:∀n,n<2048->qbE (qjP n)=n:=by decide+kernel
theorem qkV (s:Sty)(h:qC s=true):qjP (qbE s)=s:=by
 obtain⟨a,b,c,f,k⟩:=s;simp only[qC,ii,io]at h;obtain⟨f,rfl⟩:∃n:Nat,f=(n:Int):=⟨f.toNat,by omega⟩
 obtain⟨k,rfl⟩:∃n:Nat,k=(n:Int):=⟨k.toNat,by omega⟩
 have d:∀f,f<9-> ∀k,k<9-> ∀a b c:Bool,qjP (qbE ⟨a,b,c,((f:Nat):Int),((k:Nat):Int)⟩)=⟨a,b,c,((f:Nat):Int),((k:Nat):Int)⟩:=by
  intro f hf k hk a b c;unfold qjP qbE;simp only[ik,Sty.mk.injEq];cases a<;>cases b<;>cases c<;>simp<;>omega
 exact d f (by omega) k (by omega) a b c
theorem qeT {s:Sty}(h:qC s=true):qbE s<2048:=by
 simp only[qC,ii,io]at h;unfold qbE;split<;>split<;>split<;>omega
def qgF (s:RS):Sty×Bool×RS:=if((qO 2048 s).2.isSome&&qC (qjP (qO 2048 s).1.toNat))=true then(qjP (qO 2048 s).1.toNat,true,(qO 2048 s).2)else(qde,false,(qO 2048 s).2)
theorem qjQ {s:RS}{x:Sty}{s':RS}(hs:rsB s)(h:qgF s=(x,true,s')):∃ys zs,s=some ys/\s'=some zs/\ys=qw (qbE x)++zs/\qC x=true:=by
 unfold qgF at h;split at h
 ·rename_i a
  simp only[ib,true_and]at h;obtain⟨rfl,rfl⟩:=h;rw[ii]at a;obtain⟨a,b⟩:=a;obtain⟨zs,hz⟩:=jM.1 a;obtain⟨ys,c,d,g,i,e⟩:=qa8 hs (Prod.ext rfl hz);have f:(qO 2048 s).1.toNat<2048:=by have j:(qO 2048 s).1<2048:=e (by decide);omega
  exact⟨ys,zs,c,hz,by rw[qkU _ f];exact d,b⟩
 ·simp at h
theorem qjR {s:RS}(hs:rsB s):rsB (qgF s).2.2:=by
 unfold qgF;split<;>exact qE hs
def qdx (n:Nat)(c:Cel):List Int:=qw n++(qw c.rune.toNat++qw (qbE c.sty))
def qhf (c:Cel):List (Nat×Cel)->List (Nat×Cel)
 |[]=>[(1,c)]
 |(n,d)::t=>if d=c then(n+1,d)::t else(1,c)::(n,d)::t
def qe8:List Cel->List (Nat×Cel)
 |[]=>[]
 |c::r=>qhf c (qe8 r)
def qa5 (l:List Cel):List Int:=(qe8 l).flatMap fun p=>qdx p.1 p.2
theorem consR_ne (c:Cel)(t:List (Nat×Cel)):qhf c t≠[]:=by
 unfold qhf;split
 ·exact kd _ _
 ·split<;>exact kd _ _
theorem runsL_ne {l:List Cel}(h:l≠[]):qe8 l≠[]:=by
 cases l with
 |nil=>exact absurd rfl h
 |cons c r=>exact consR_ne _ _
theorem qng:∀{l:List Cel} {n:Nat} {d:Cel} {t:List (Nat×Cel)},qe8 l=(n,d)::t->l.head? =some d
 |[],_,_,_,h=>by cases h
 |c::r,n,d,t,h=>by
  unfold qe8 qhf at h
  split at h
  ·simp only[List.cons.injEq,ib]at h
   rw[<-h.1.2];rfl
  ·split at h
   ·rename_i e
    simp only[List.cons.injEq,ib]at h
    rw[<-h.1.2,e];rfl
   ·simp only[List.cons.injEq,ib]at h
    rw[<-h.1.2];rfl
theorem qeU (c:Cel)(r:List Cel)(h:r.head? ≠some c):∀n,qe8 (List.replicate (n+1) c++r)=(n+1,c)::qe8 r
 |0=>by
  show qhf c (qe8 r)=_
  unfold qhf
  split
  ·rename_i e;rw[e]
  ·rename_i n d t e
   rw[if_neg (fun hd=>h (by rw[qng e,hd])),e]
 |n+1=>by
  rw[List.replicate_succ]
  show qhf c (qe8 (List.replicate (n+1) c++r))=_
  rw[qeU c r h n,qhf,if_pos rfl]
theorem qdy {c:Cel}{r:List Cel}(h:r.head? ≠some c)(n:Nat):qa5 (List.replicate (n+1) c++r)=qdx (n+1) c++qa5 r:=by
 unfold qa5;rw[qeU c r h n];rfl
theorem qhL {c:Cel}{n:Nat}:∀{l:List Cel},l.getLast? ≠some c->qe8 (l++List.replicate (n+1) c)=qe8 l++[(n+1,c)]
 |[],_=>by
  have:=qeU c [] (by simp) n
  rw[iI]at this
  exact this
 |d::r,h=>by
  show qhf d (qe8 (r++List.replicate (n+1) c))=qhf d (qe8 r)++_
  cases r with
  |nil=>
   have hd:¬c=d:=fun e=>h (by rw[e];rfl)
   have:=qeU c [] (by simp) n
   rw[iI]at this
   rw[iO,this]
   show(if c=d then _ else _)=_
   rw[if_neg hd];rfl
  |cons e r=>
   have h2:(e::r).getLast? ≠some c:=by rw[List.getLast?_cons_cons]at h;exact h
   rw[qhL h2]
   have a:=runsL_ne (kd e r)
   match hq:qe8 (e::r),a with
   |(k,q)::t,_=>
    show(if q=d then(k+1,q)::(t++_)else(1,d)::(k,q)::(t++_))=(if q=d then(k+1,q)::t else(1,d)::(k,q)::t)++_
    split<;>rfl
theorem qnh {c:Cel}{n:Nat}{l:List Cel}(h:l.getLast? ≠some c)(hn:0<n):qa5 (l++List.replicate n c)=qa5 l++qdx n c:=by
 obtain⟨n,rfl⟩:∃m,n=m+1:=⟨n-1,by omega⟩
 unfold qa5;rw[qhL h,jY];simp
def cOk (c:Cel):Prop:=qC c.sty=true/\0<=c.rune/\c.rune<1114112
def qjS (W:Int)(out:List Cel)(s:RS):Option (List Cel)×RS:=
 if(qgF (qO 1114112 (qO (W-(out.length:Int)+1) s).2).2).2.1=false\/(qO (W-(out.length:Int)+1) s).1=0\/out.getLast? =some ⟨(qO 1114112 (qO (W-(out.length:Int)+1) s).2).1,(qgF (qO 1114112 (qO (W-(out.length:Int)+1) s).2).2).1⟩then(none,(qgF (qO 1114112 (qO (W-(out.length:Int)+1) s).2).2).2.2)
 else(some (out++List.replicate (qO (W-(out.length:Int)+1) s).1.toNat ⟨(qO 1114112 (qO (W-(out.length:Int)+1) s).2).1,(qgF (qO 1114112 (qO (W-(out.length:Int)+1) s).2).2).1⟩),(qgF (qO 1114112 (qO (W-(out.length:Int)+1) s).2).2).2.2)
theorem qcB {W:Int}{out:List Cel}{s s1 s2 s3:RS}{n r:Int}{t:Sty}{ok:Bool}(h1:qO (W-(out.length:Int)+1) s=(n,s1))(h2:qO 1114112 s1=(r,s2))(h3:qgF s2=(t,ok,s3)):
  qjS W out s=if ok=false\/n=0\/out.getLast? =some ⟨r,t⟩then(none,s3)else(some (out++List.replicate n.toNat ⟨r,t⟩),s3):=by
 unfold qjS;rw[h1];dsimp only;rw[h2];dsimp only;rw[h3]
def qc0:Nat->Int->List Cel->RS->Option (List Cel)×RS
 |0,_,out,s=>(some out,s)
 |f+1,W,out,s=>if W<=(out.length:Int)then(some out,s)else match qjS W out s with
  |(none,s')=>(none,s')
  |(some o,s')=>qc0 f W o s'
def qdz (W:Int)(s:RS):List Cel×Bool×RS:=match qc0 W.toNat W [] s with
 |(none,s')=>([],false,s')
 |(some o,s')=>if qb3 o=true then(o,true,s')else([],false,s')
theorem qcV {f:Nat}{W:Int}{out:List Cel}{s:RS}(h:W<=(out.length:Int)):qc0 f W out s=(some out,s):=by
 cases f with
 |zero=>rfl
 |succ f=>rw[qc0,if_pos h]
theorem qgG {f:Nat}{W:Int}{out:List Cel}{s s':RS}(h:¬W<=(out.length:Int))(hf:W.toNat-out.length<=f)(hs:qjS W out s=(none,s')):qc0 f W out s=(none,s'):=by
 cases f with
 |zero=>omega
 |succ f=>rw[qc0,if_neg h,hs]
theorem qlW {f:Nat}{W:Int}{out o:List Cel}{s s':RS}(h:¬W<=(out.length:Int))(hf:W.toNat-out.length<=f)(hs:qjS W out s=(some o,s')):∃f',f=f'+1/\qc0 f W out s=qc0 f' W o s':=by
 cases f with
 |zero=>omega
 |succ f=>exact⟨f,rfl,by rw[qc0,if_neg h,hs]⟩
theorem qni {W:Int}{out:List Cel}{s:RS}(hs:rsB s):rsB (qjS W out s).2:=by
 unfold qjS;split<;>exact qjR (qE (qE hs))
theorem qhM:∀(f:Nat) {W:Int} {out:List Cel} {s:RS},rsB s->rsB (qc0 f W out s).2
 |0,_,_,_,h=>h
 |f+1,W,out,s,h=>by
  rw[qc0]
  split
  ·exact h
  ·have:=qni (W:=W) (out:=out) h
   split
   ·rename_i e;rw[e]at this;exact this
   ·rename_i e;rw[e]at this;exact qhM f this
theorem qfq {W:Int}{s:RS}(hs:rsB s):rsB (qdz W s).2.2:=by
 have:=qhM W.toNat (W:=W) (out:=[]) hs;unfold qdz;split
 ·rename_i e;rw[e]at this;exact this
 ·rename_i e
  rw[e]at this;split<;>exact this
theorem qnj:∀(f:Nat) (W:Int) (out o:List Cel) (ys:List Int) (s':RS),qaw ys->(out.length:Int)<=W->(∀c∈out,cOk c)->W.toNat-out.length<=f->qc0 f W out (some ys)=(some o,s')->
  ∃zs,s'=some zs/\qa5 out++ys=qa5 o++zs/\(o.length:Int)=W/\ ∀c∈o,cOk c:=by
 intro f
 induction f with
 |zero=>
  intro W out o ys s' hb hl hc hf h;simp only[qc0,ib,ij]at h;obtain⟨rfl,rfl⟩:=h;exact⟨ys,rfl,rfl,by omega,hc⟩
 |succ f ih=>
  intro W out o ys s' hb hl hc hf h;rw[qc0]at h;split at h
  ·simp only[ib,ij]at h
   obtain⟨rfl,rfl⟩:=h;exact⟨ys,rfl,rfl,by omega,hc⟩
  ·rename_i hW
   obtain⟨n,a,b⟩:∃n a,qO (W-(out.length:Int)+1) (some ys)=(n,a):=⟨_,_,rfl⟩
   obtain⟨r,d,g⟩:∃n d,qO 1114112 a=(n,d):=⟨_,_,rfl⟩
   obtain⟨t,ok,k,l⟩:∃t ok k,qgF d=(t,ok,k):=⟨_,_,_,rfl⟩
   rw[qcB b g l]at h;split at h
   ·rename_i e
    split at e
    ·cases h
    ·cases e
   ·rename_i O P e
    split at e
    ·cases e
    ·rename_i hn
     simp only[ib,ij]at e;obtain⟨rfl,rfl⟩:=e;simp only[not_or]at hn;obtain⟨Q,R,s⟩:=hn;have u:ok=true:=by cases ok<;>simp_all
     subst u;have m:rsB (some ys):=fun x hx=>by cases hx;exact hb
     have i:=qE (lim:=W-(out.length:Int)+1) m;rw[b]at i;have j:=qE (lim:=1114112) i;rw[g]at j;obtain⟨v,p,w,y,q,z⟩:=qjQ j l;subst w y;obtain⟨S,A,B,C,T,D⟩:=qa8 i g;subst A;obtain⟨y1,E,F,U,V,G⟩:=qa8 m b;obtain rfl:=ia E;have H:0<n.toNat:=by omega
     have X:=G (by omega);have I:qaw p:=by
      have:=j v rfl;rw[q]at this;exact fun x hx=>this x (k8 _ hx)
     obtain⟨zs,J,K,L,M⟩:=ih W _ o p s' I (by rw[hZ,ir];omega) (fun c N=>by
      rcases iC.1 N with h|h
      ·exact hc c h
      ·rw[(List.mem_replicate.1 h).2];exact⟨z,C,by have:=D (by decide);exact this⟩) (by rw[hZ,ir];omega) h
     refine⟨zs,J,?_,L,M⟩;rw[<-K,qnh s H,F,B,q];unfold qdx;simp only[ie]
theorem qnk {W:Int}{s:RS}{o:List Cel}{s':RS}(hs:rsB s)(hW:0<W)(h:qdz W s=(o,true,s')):∃ys zs,s=some ys/\s'=some zs/\ys=qa5 o++zs/\(o.length:Int)=W/\qb3 o=true/\ ∀c∈o,cOk c:=by
 unfold qdz at h;cases s with
 |none=>
  obtain⟨f,hf⟩:∃f,W.toNat=f+1:=⟨W.toNat-1,by omega⟩
  rw[hf,qc0,if_neg (by simpa using hW)]at h;have:qjS W [] none=(none,none):=by
   rw[qcB (n:=0) (s1:=none) (r:=0) (s2:=none) (t:=qde) (ok:=false) (s3:=none) rfl rfl rfl,if_pos (.inl rfl)]
  rw[this]at h;simp at h
 |some ys=>
  split at h
  ·simp at h
  ·rename_i a s2 e
   split at h
   ·rename_i hw
    simp only[ib,true_and]at h;obtain⟨rfl,rfl⟩:=h;obtain⟨zs,b,d,g,i⟩:=qnj W.toNat W [] a ys s2 (hs ys rfl) (by simp;omega) (fun c hc=>by cases hc) (by simp) e;exact⟨ys,zs,rfl,b,d,g,hw,i⟩
   ·simp at h
def qal (W:Int):Nat->List (List Cel)->RS->Bool->List (List Cel)×RS×Bool
 |0,out,s,f=>(out,s,f)
 |k+1,out,s,f=>if(f&&(qdz W s).2.1)=true then qal W k (out++[(qdz W s).1]) (qdz W s).2.2 true else([],(qdz W s).2.2,false)
theorem qbF {W:Int}:∀(k:Nat) {out:List (List Cel)} {s:RS} {f:Bool},rsB s->rsB (qal W k out s f).2.1
 |0,_,_,_,h=>h
 |k+1,out,s,f,h=>by
  rw[qal]
  split
  ·exact qbF k (qfq h)
  ·exact qfq h
theorem qd5 {W:Int}(hW:0<W):∀(k:Nat) {out L:List (List Cel)} {s s':RS} {f:Bool},rsB s->s.isSome=true\/0<k->qal W k out s f=(L,s',true)->
  ∃M ys zs,f=true/\L=out++M/\s=some ys/\s'=some zs/\ys=M.flatMap qa5++zs/\M.length=k/\ ∀l∈M,(l.length:Int)=W/\qb3 l=true/\ ∀c∈l,cOk c
 |0,out,L,s,s',f,hs,h0,h=>by
  simp only[qal,ib]at h
  obtain⟨rfl,rfl,rfl⟩:=h
  obtain⟨ys,rfl⟩:=jM.1 (h0.resolve_right (by decide))
  exact⟨[],ys,ys,rfl,(iI _).symm,rfl,rfl,rfl,rfl,fun l hl=>by cases hl⟩
 |k+1,out,L,s,s',f,hs,h0,h=>by
  obtain⟨l1,ok1,s1,hL⟩:∃a b c,qdz W s=(a,b,c):=⟨_,_,_,rfl⟩
  have hb:=qfq (W:=W) hs
  rw[qal,hL]at h
  rw[hL]at hb
  dsimp only at h hb
  split at h
  ·rename_i hf
   rw[ii]at hf
   obtain⟨hf,rfl⟩:=hf
   obtain⟨ys,zs,e1,rfl,e3,e4,e5,e6⟩:=qnk hs hW hL
   obtain⟨M,ys2,zs2,_,q1,q2,q3,q4,q5,q6⟩:=qd5 hW k hb (.inl rfl) h
   obtain rfl:=ia q2
   exact⟨l1::M,ys,zs2,hf,by rw[q1];simp,e1,q3,by rw[e3,q4];simp,by simp[q5],fun l hl=>by
    rcases j8.1 hl with rfl|hl
    ·exact⟨e4,e5,e6⟩
    ·exact q6 l hl⟩
  ·simp at h
def qe9:Nat->List (List Cel)->RS->Bool->List (List Cel)×RS×Bool
 |0,out,s,f=>(out,s,f)
 |k+1,out,s,f=>if((qal (qO 61 s).1 1 [] (qO 61 s).2 f).2.2&&decide (0<(qO 61 s).1))=true then qe9 k (out++(qal (qO 61 s).1 1 [] (qO 61 s).2 f).1) (qal (qO 61 s).1 1 [] (qO 61 s).2 f).2.1 true else([],(qal (qO 61 s).1 1 [] (qO 61 s).2 f).2.1,false)
def qfO (s:RS)(f:Bool):List (List Cel)×RS×Bool:=qe9 (qO 21 s).1.toNat [] (qO 21 s).2 f
def qbS (B:List (List Cel)):List Int:=B.flatMap fun l=>qw l.length++qa5 l
theorem qhN:∀(k:Nat) {out:List (List Cel)} {s:RS} {f:Bool},rsB s->rsB (qe9 k out s f).2.1
 |0,_,_,_,h=>h
 |k+1,out,s,f,h=>by
  rw[qe9]
  split
  ·exact qhN k (qbF 1 (qE h))
  ·exact qbF 1 (qE h)
theorem qhO:∀(k:Nat) {out L:List (List Cel)} {s s':RS} {f:Bool},rsB s->s.isSome=true\/0<k->qe9 k out s f=(L,s',true)->
  ∃M ys zs,f=true/\L=out++M/\s=some ys/\s'=some zs/\ys=qbS M++zs/\M.length=k/\ ∀l∈M,0<l.length/\l.length<=60/\qb3 l=true/\ ∀c∈l,cOk c
 |0,out,L,s,s',f,hs,h0,h=>by
  simp only[qe9,ib]at h
  obtain⟨rfl,rfl,rfl⟩:=h
  obtain⟨ys,rfl⟩:=jM.1 (h0.resolve_right (by decide))
  exact⟨[],ys,ys,rfl,(iI _).symm,rfl,rfl,rfl,rfl,fun l hl=>by cases hl⟩
 |k+1,out,L,s,s',f,hs,h0,h=>by
  obtain⟨n,s1,hN⟩:∃a b,qO 61 s=(a,b):=⟨_,_,rfl⟩
  have hb:=qE (lim:=61) hs
  rw[qe9,hN]at h
  rw[hN]at hb
  dsimp only at h hb
  obtain⟨L1,s2,f2,hL⟩:∃a b c,qal n 1 [] s1 f=(a,b,c):=⟨_,_,_,rfl⟩
  have hb2:=qbF (W:=n) 1 (out:=[]) (f:=f) hb
  rw[hL]at h hb2
  dsimp only at h hb2
  split at h
  ·rename_i hf
   rw[ii,io]at hf
   obtain⟨rfl,hw⟩:=hf
   obtain⟨M1,y1,z1,f1,q1,rfl,rfl,q4,q5,q6⟩:=qd5 hw 1 hb (.inr (by decide)) hL
   obtain⟨ys,e1,e2,e3,e4,e5⟩:=qa8 hs hN
   obtain⟨l,rfl⟩:∃l,M1=[l]:=by
    match M1,q5 with
    |[l],_=>exact⟨l,rfl⟩
   have hl:=q6 l (iD.2 rfl);have q:=e5 (by decide);obtain⟨M,r,d,_,e,g,i,j,o,p⟩:=qhO k hb2 (.inl rfl) h;obtain rfl:=ia g;refine⟨l::M,ys,d,f1,by rw[e,q1];simp,e1,i,?_,by simp[o],fun m hm=>?_⟩
   ·rw[e2,q4,j]
    unfold qbS;rw[show n.toNat=l.length by have:=hl.1;omega];simp
   ·rcases j8.1 hm with rfl|hm
    ·exact⟨by have:=hl.1;omega,by have:=hl.1;omega,hl.2⟩
    ·exact p m hm
  ·simp at h
theorem qnl {s s':RS}{L:List (List Cel)}{f:Bool}(hs:rsB s)(h:qfO s f=(L,s',true))(hz:s'.isSome=true):∃ys zs,f=true/\s=some ys/\s'=some zs/\ys=qw L.length++(qbS L++zs)/\L.length<=20/\ ∀l∈L,0<l.length/\l.length<=60/\qb3 l=true/\ ∀c∈l,cOk c:=by
 obtain⟨n,g,hN⟩:∃a b,qO 21 s=(a,b):=⟨_,_,rfl⟩
 have hb:=qE (lim:=21) hs;unfold qfO at h;rw[hN]at h hb;dsimp only at h hb;have i:g.isSome=true\/0<n.toNat:=by
  rcases jm n.toNat with d|d
  ·rw[d]at h
   simp only[qe9,ib]at h;rw[h.2.1];exact .inl hz
  ·exact .inr d
 obtain⟨M,y1,j,f1,e,rfl,k,m,o,p⟩:=qhO _ hb i h;obtain⟨ys,q,r,u,v,t⟩:=qa8 hs hN;have w:=t (by decide);rw[iO]at e;subst e;exact⟨ys,j,f1,q,k,by rw[r,m,o],by omega,p⟩
structure uR (u:US):Prop where
 n:0<=u.n/\u.n<=3
 b0:u.n<=0->u.b0=0
 b1:u.n<=1->u.b1=0
 b2:u.n<=2->u.b2=0
 f:u.n=0\/qbR u.pend=false
theorem sz_all:∀c,c<256->qe .and .u8 (firstN c) 7<=4:=by decide+kernel
theorem uR0:uR u0:=⟨by decide,fun _=>rfl,fun _=>rfl,fun _=>rfl,.inl rfl⟩
theorem qp8 {l:List Int}(h:∀x∈l,0<=x/\x<=255):∀k,¬(0<(itU l k).2.length/\qbR (itU l k).2=true)\/(itU l k).2.length+k<=l.length
 |0=> .inr (by show l.length+0<=l.length;omega)
 |k+1=>by
  by_cases hc:0<(itU l k).2.length/\qbR (itU l k).2=true
  ·have ih:=(qp8 h k).resolve_left (fun h=>h hc)
   right
   have:=qkH (qdp h k) hc.1
   rw[qhy hc.1 hc.2]
   simp only[iE]
   omega
  ·left
   have:=qik hc 1
   rw[this];exact hc
theorem qp9 {u:US}(h:u.ok){c:Int}(hc:0<=c/\c<=255):((itU (u.pend++[c]) 4).2=[]\/qbR (itU (u.pend++[c]) 4).2=false)/\(itU (u.pend++[c]) 4).2.length<=3:=by
 have hl:∀x∈u.pend++[c],0<=x/\x<=255:=fun x hx=>by
  rcases iC.1 hx with hx|hx
  ·exact h.pend x hx
  ·rw[iD.1 hx];exact hc
 have hn:(u.pend++[c]).length<=4:=by rw[hZ,h.len];have:=h.n;simp only[iy,iM];omega
 have a:(itU (u.pend++[c]) 4).2=[]\/qbR (itU (u.pend++[c]) 4).2=false:=by
  rcases qp8 hl 4 with d|d
  ·rcases jm (itU (u.pend++[c]) 4).2.length with b|b
   ·exact .inl (iv b)
   ·exact .inr (by cases e:qbR (itU (u.pend++[c]) 4).2 with
     |false=>rfl
     |true=>exact absurd ⟨b,e⟩ d)
  ·exact .inl (iv (by omega))
 refine⟨a,?_⟩;rcases a with a|a
 ·rw[a];exact il _
 ·have hb:=qdp hl 4
  have hs:=sz_all ((itU (u.pend++[c]) 4).2.getD 0 0).toNat (by have:=qaI hb (by decide) 0;omega);unfold qbR at a;split at a
  ·rename_i b;omega
  ·split at a
   ·cases a
   ·rename_i b
    have hs':szI (itU (u.pend++[c]) 4).2<=4:=hs;omega
theorem qlX {l:List Int}(h:l.length<=3):(mkU l).pend=l:=by
 unfold mkU US.pend;simp only[ik]
 match l,h with
 |[],_=>rfl
 |[a],_=>rfl
 |[a,b],_=>rfl
 |[a,b,c],_=>rfl
theorem qpa {u:US}(h:u.ok){c:Int}(hc:0<=c/\c<=255):uR (qdh u c).1:=by
 obtain⟨a,b⟩:=qp9 h hc;show uR (mkU ((itU (u.pend++[c]) 4).2.take 3));rw[jd b];generalize (itU (u.pend++[c]) 4).2=r at a b;have hg:∀i,r.length<=i->r.getD i 0=0:=fun i hi=>by rw[List.getD,jn hi];rfl
 refine⟨⟨Int.natCast_nonneg _,by show(r.length:Int)<=3;omega⟩,fun e=>hg 0 ?_,fun e=>hg 1 ?_,fun e=>hg 2 ?_,?_⟩
 ·have e:(r.length:Int)<=0:=e;omega
 ·have e:(r.length:Int)<=1:=e;omega
 ·have e:(r.length:Int)<=2:=e;omega
 ·rw[qlX b]
  rcases a with rfl|a
  ·exact .inl rfl
  ·exact .inr a
def lowM (c:Int):Prop:=32<=c/\c<48
def wideM (c:Int):Prop:=lowM c\/(60<=c/\c<=63)
def allB (f:Int->Prop)(s:ByteArray):Prop:= ∀i:Nat,i<s.size->f (bt s (i:Int))
theorem qg6 (f:Int->Prop):allB f ByteArray.empty:=fun i hi=>by have:i<0:=hi;omega
theorem qnm {c:Int}(hc:0<=c/\c<=255):(qf [c]).size=1/\bt (qf [c]) 0=c:=by
 refine⟨rfl,?_⟩;have:∀k:Nat,k<256->bt (qf [(k:Int)]) 0=(k:Int):=by decide+kernel
 have:=this c.toNat (by omega);rwa[show(c.toNat:Int)=c by omega]at this
theorem qgH {f:Int->Prop}{s:ByteArray}(h:allB f s){c:Int}(hc:0<=c/\c<=255)(hf:f c):allB f (s++qf [c]):=fun i hi=>by
 have hb:=qnm hc
 rw[iT,hb.1]at hi
 unfold bt
 rw[dif_pos (show(i:Int).toNat<(s++qf [c]).size by rw[iT,hb.1];omega)]
 simp only[ik]
 by_cases b:i<s.size
 ·have:=h i b
  unfold bt at this
  rw[dif_pos (show(i:Int).toNat<s.size by omega)]at this
  simp only[ik]at this
  rw[ByteArray.getElem_append_left b];exact this
 ·have e:i=s.size:=by omega
  subst e
  rw[ByteArray.getElem_append_right (iG _)]
  have a:=hb.2
  unfold bt at a
  rw[dif_pos (show(0:Int).toNat<(qf [c]).size by rw[hb.1];decide)]at a
  simp only[Nat.sub_self]
  have d:(((qf [c])[0]'(by rw[hb.1];decide)).toNat:Int)=c:=a
  rw[d];exact hf
structure PRight (p:PS):Prop where
 st:0<=p.state/\p.state<=7
 wi:p.state≠7->p.within=0
 wc:p.state=7->p.within=5\/p.within=6
 u:p.state≠0->p.utf=u0
 u':uR p.utf
 m:p.state≠2->p.state≠3->p.state≠4->p.marks=ByteArray.empty
 n:p.state≠3->p.state≠4->p.params=[]
 t:p.state<=4->p.text=ByteArray.empty
 m2:p.state=2->1<=p.marks.size/\allB lowM p.marks
 m3:p.state=3\/p.state=4->allB wideM p.marks
 t5:allB (fun c=>32<=c) p.text
theorem qeV {s:Int}(h:s=0\/s=1\/s=3\/s=5\/s=6):PRight (atP s):=by
 refine⟨by show 0<=s/\s<=7;omega,fun _=>rfl,fun e=>?_,fun _=>rfl,uR0,fun _ _ _=>rfl,fun _ _=>rfl,fun _=>rfl,fun e=>?_,fun _=>qg6 _,qg6 _⟩
 ·have e:s=7:=e;omega
 ·have e:s=2:=e;omega
theorem qpb {p:PS}(h:PRight p)(h0:p.state=0){u:US}(hu:uR u):PRight {p with utf:=u}:={h with u:=fun e=>absurd h0 e,u':=hu}
theorem qaU {c:Prop}[Decidable c]{a b:PS×List Ac}(h1:c->PRight a.1)(h2:¬c->PRight b.1):PRight (if c then a else b).1:=by
 split
 ·exact h1 ‹_›
 ·exact h2 ‹_›
theorem qpc {p:PS}(h:PRight p)(hl:p.lim)(h0:p.state=0){c:Int}(hc:0<=c/\c<=255):PRight (qS p c).1:=by
 unfold qS;refine qaU (fun _=>?_) fun _=>qpb h h0 (qpa hl.u hc);refine qaU (fun _=>qeV (.inr (.inl rfl))) fun _=>?_;exact qaU (fun _=>qpb h h0 uR0) fun _=>qpb h h0 (qpa qkK hc)
theorem qpd {p:PS}(h:PRight p)(h5:p.state=5\/p.state=6){c:Int}(hc:0<=c/\c<=255):PRight (qR p c).1:=by
 unfold qR;refine qaU (fun _=>?_) fun _=>?_
 ·exact⟨(by show(0:Int)<=7/\(7:Int)<=7;decide),fun e=>absurd rfl e,fun _=>h5,fun _=>h.u (by omega),h.u',fun _ _ _=>h.m (by omega) (by omega) (by omega),fun _ _=>h.n (by omega) (by omega),fun e=>absurd e (by show¬(7:Int)<=4;decide),fun e=>absurd e (by show¬(7:Int)=2;decide),fun e=>absurd e (by show¬((7:Int)=3\/(7:Int)=4);decide),h.t5⟩
 refine qaU (fun _=>qeV (.inl rfl)) fun _=>?_;refine qaU (fun _=>qeV (.inl rfl)) fun _=>?_;refine qaU (fun hx=>?_) fun _=>h;exact{h with t:=fun e=>absurd e (by show¬p.state<=4;omega),t5:=qgH h.t5 hc hx.1}
theorem qpe {p:PS}(h:PRight p)(h1:p.state=1\/p.state=2){c:Int}(hc:32<=c/\c<=255):PRight (qt p c).1:=by
 unfold qt;have a:allB lowM p.marks:=by
  rcases h1 with e|e
  ·rw[h.m (by omega) (by omega) (by omega)];exact qg6 _
  ·exact(h.m2 e).2
 have d:p.state=2->1<=p.marks.size:=fun e=>(h.m2 e).1;refine qaU (fun b=>?_) fun _=>?_
 ·show PRight (if _ then _ else _)
  split
  ·exact⟨(by show(0:Int)<=2/\(2:Int)<=7;decide),fun _=>h.wi (by omega),fun e=>absurd e (by show¬(2:Int)=7;decide),fun _=>h.u (by omega),h.u',fun e=>absurd rfl e,fun _ _=>h.n (by omega) (by omega),fun _=>h.t (by omega),fun _=>⟨by show 1<=(p.marks++qf [c]).size;rw[iT,qb2];omega,qgH a ⟨by omega,hc.2⟩ ⟨hc.1,b⟩⟩,fun e=>absurd e (by show¬((2:Int)=3\/(2:Int)=4);decide),h.t5⟩
  ·rename_i f
   exact⟨(by show(0:Int)<=2/\(2:Int)<=7;decide),fun _=>h.wi (by omega),fun e=>absurd e (by show¬(2:Int)=7;decide),fun _=>h.u (by omega),h.u',fun e=>absurd rfl e,fun _ _=>h.n (by omega) (by omega),fun _=>h.t (by omega),fun _=>⟨by show 1<=p.marks.size;omega,a⟩,fun e=>absurd e (by show¬((2:Int)=3\/(2:Int)=4);decide),h.t5⟩
 refine qaU (fun _=>qeV (.inr (.inr (.inl rfl)))) fun _=>?_;refine qaU (fun _=>qeV (.inr (.inr (.inr (.inl rfl))))) fun _=>?_;refine qaU (fun _=>qeV (.inr (.inr (.inr (.inr rfl))))) fun _=>?_;exact qeV (.inl rfl)
theorem pr_csi {p:PS}(h:PRight p)(h3:p.state=3\/p.state=4){c:Int}(hc:32<=c/\c<=255):PRight (qbC p c).1:=by
 have hp:∀l,PRight {p with params:=l}:=fun l=>{h with n:=fun e e'=>absurd h3 (by show¬(p.state=3\/p.state=4);exact fun h=>h.elim e e')}
 unfold qbC;refine qaU (fun _=>hp _) fun hd=>?_;refine qaU (fun _=>?_) fun hs=>?_
 ·show PRight (if _ then _ else _)
  split<;>exact hp _
 refine qaU (fun _=>qaU (fun _=>qeV (.inl rfl)) fun _=>qeV (.inl rfl)) fun b=>?_;refine qaU (fun _=>?_) fun hm=>?_
 ·exact⟨(by show(0:Int)<=4/\(4:Int)<=7;decide),fun _=>h.wi (by omega),fun e=>absurd e (by show¬(4:Int)=7;decide),fun _=>h.u (by omega),h.u',fun _ _ e=>absurd rfl e,fun _ e=>absurd rfl e,fun _=>h.t (by omega),fun e=>absurd e (by show¬(4:Int)=2;decide),fun _=>h.m3 h3,h.t5⟩
 ·exact{h with m:=fun e e' a=>absurd h3 (by show¬(p.state=3\/p.state=4);exact fun h=>h.elim e' a),m2:=fun e=>(by have e:p.state=2:=e;omega),m3:=fun _=>qgH (h.m3 h3) ⟨by omega,hc.2⟩ (by unfold wideM lowM;omega)}
theorem qlY {p:PS}(h:PRight p)(hl:p.lim)(h7:p.state≠7){c:Int}(hc:0<=c/\c<=255):PRight (qaS p c).1:=by
 have e:=h.st;unfold qaS;refine qaU (fun a=>qpc h hl a hc) fun a=>?_;refine qaU (fun d=>qpd h (by omega) hc) fun d=>?_;refine qaU (fun _=>qeV (.inl rfl)) fun _=>?_;refine qaU (fun _=>qeV (.inr (.inl rfl))) fun _=>?_;refine qaU (fun _=>h) fun f=>?_;refine qaU (fun _=>h) fun _=>?_;refine qaU (fun b=>pr_csi h b ⟨by omega,hc.2⟩) fun b=>?_;exact qpe h (by omega) ⟨by omega,hc.2⟩
theorem pr_feed {p:PS}(h:PRight p)(hl:p.lim){c:Int}(hc:0<=c/\c<=255):PRight (qbl p c).1:=by
 unfold qbl;refine qaU (fun a=>?_) fun a=>qlY h hl a hc;exact qaU (fun _=>qeV (.inl rfl)) fun _=>qlY (qeV (.inr (.inl rfl))) (qbx 1) (by show(1:Int)≠7;decide) hc
theorem qjT {T:TS}(h:PRight T.parser)(hl:T.parser.lim)(s:ByteArray):∀k,PRight (qds T s k).parser
 |0=>h
 |k+1=>by rw[qds,qoQ];exact pr_feed (qjT h hl s k) (qdQ hl s k) (qd2 s _)
theorem pr_do {T:TS}(h:PRight T.parser)(hl:T.parser.lim)(x:Stp):PRight (doT T x).parser:=by
 unfold doT;split
 ·exact qjT h hl _ _
 ·rw[qeR];exact h
def qea (c:Cur):List Int:=qw c.x.toNat++(qw c.y.toNat++(qw (qab [c.late])++qw (qbE c.sty)))
def qiV (W H:Int)(s:RS):Cur×Bool×RS:=
  (⟨(qO W s).1,(qO H (qO W s).2).1,(qO 2 (qO H (qO W s).2).2).1==1,(qgF (qO 2 (qO H (qO W s).2).2).2).1⟩,
   (qgF (qO 2 (qO H (qO W s).2).2).2).2.1&&(!((qO 2 (qO H (qO W s).2).2).1==1)||(qO W s).1==W-1),(qgF (qO 2 (qO H (qO W s).2).2).2).2.2)
theorem qfr {W H:Int}{s s1 s2 s3 s4:RS}{x y l:Int}{t:Sty}{ok:Bool}(h1:qO W s=(x,s1))(h2:qO H s1=(y,s2))(h3:qO 2 s2=(l,s3))(h4:qgF s3=(t,ok,s4)):
    qiV W H s=(⟨x,y,l==1,t⟩,ok&&(!(l==1)||x==W-1),s4):=by
  unfold qiV;rw[h1];dsimp only;rw[h2];dsimp only;rw[h3];dsimp only;rw[h4]
structure CurOk (W H:Int)(c:Cur):Prop where
  x:0<=c.x/\c.x<W
  y:0<=c.y/\c.y<H
  l:c.late=true->c.x=W-1
  s:qC c.sty=true
theorem qgI {W H:Int}{s:RS}(hs:rsB s):rsB (qiV W H s).2.2:=qjR (qE (qE (qE hs)))
theorem qgJ {W H:Int}{s s':RS}{c:Cur}(hs:rsB s)(hW:0<W)(hH:0<H)(h:qiV W H s=(c,true,s')):∃ys zs,s=some ys/\s'=some zs/\ys=qea c++zs/\CurOk W H c:=by
  obtain⟨x,a,b⟩:∃n a,qO W s=(n,a):=⟨_,_,rfl⟩
  obtain⟨y,k,d⟩:∃n s',qO H a=(n,s'):=⟨_,_,rfl⟩
  obtain⟨l,m,e⟩:∃n s',qO 2 k=(n,s'):=⟨_,_,rfl⟩
  obtain⟨t,ok,K,i⟩:∃n o s',qgF m=(n,o,s'):=⟨_,_,_,rfl⟩
  rw[qfr b d e i]at h;simp only[ib,ii,jx,jv]at h;obtain⟨rfl,⟨rfl,hl⟩,rfl⟩:=h;have f:=qE (lim:=W) hs;rw[b]at f;have g:=qE (lim:=H) f;rw[d]at g;have j:=qE (lim:=2) g;rw[e]at j;obtain⟨L,p,q,r,u,v⟩:=qjQ j i;subst q r;obtain⟨M,w,z,N,O,A⟩:=qa8 g e;subst w;obtain⟨P,B,C,D,Q,E⟩:=qa8 f d;subst B;obtain⟨y1,F,G,I,R,J⟩:=qa8 hs b;have S:=A (by decide);refine⟨y1,p,F,rfl,?_,⟨⟨I,J hW⟩,⟨D,E hH⟩,fun hh=>?_,v⟩⟩
  · unfold qea
    have:qab [l==1]=l.toNat:=by
      have:l=0\/l=1:=by omega
      rcases this with rfl|rfl<;>rfl
    dsimp only;rw[this,G,C,z,u];simp only[ie]
  · dsimp only at hh
    rcases hl with hl|hl
    · rw[hl]at hh;cases hh
    · exact iV.1 hl
def qjU (c:Int):Bool:=decide (32<=c)&&decide (c<48)
def qbT (c:Int):Bool:=qjU c||(decide (60<=c)&&decide (c<=63))
def zb (s:ByteArray):Bool:=s.toList==ByteArray.empty.toList
def utB (u:US):Bool:=decide (0<=u.n)&&decide (u.n<=3)&&([u.b0,u.b1,u.b2].drop u.n.toNat).all (· ==0)&&(u.n==0|| !qbR u.pend)
def qcW (u:US):Bool:=u.b0==0&&u.b1==0&&u.b2==0&&u.n==0
def qgK (p:PS):Bool:=zb p.marks&&p.params.length==0
def qbh (lo:Nat)(f:Int->Bool)(m:ByteArray):Bool:=decide (lo<=m.size)&&decide (m.size<=2)&&(List.range m.size).all fun i=>f (bt m (i:Int))
def qgL (l:List Int):Bool:=l.all (fun n=>decide (0<=n)&&decide (n<=9999))&&decide (l.length<=8)
def qdA (x:ByteArray):Bool:=((List.range x.size).all fun i=>decide (32<=bt x (i:Int)))&&decide (x.size<=40)
def qF (p:PS):Bool:=
  if(p.state≠7/\p.within≠0)\/(p.state≠0/\qcW p.utf=false)then false
  else if p.state=0 then utB p.utf&&qgK p&&zb p.text
  else if p.state=1 then qgK p&&zb p.text
  else if p.state=2 then qbh 1 qjU p.marks&&p.params.length==0&&zb p.text
  else if p.state=3\/p.state=4 then qbh 0 qbT p.marks&&qgL p.params&&zb p.text
  else if p.state=7 then(if p.within≠5/\p.within≠6 then false else qgK p&&qdA p.text)
  else if p.state=5\/p.state=6 then qgK p&&qdA p.text
  else false
def qcm (p:PS):List Int:=qw p.state.toNat++(qw p.within.toNat++(qbr (qf p.utf.pend)++(qbr p.marks++(qw p.params.length++(p.params.flatMap (fun n=>qw n.toNat)++qbr p.text)))))
def qeW:Nat->List Int->RS->List Int×RS
  |0,l,s=>(l,s)
  |k+1,l,s=>qeW k (l++[(qO 10000 s).1]) (qO 10000 s).2
theorem qhP:∀(k:Nat) {l:List Int} {s:RS},rsB s->rsB (qeW k l s).2
  |0,_,_,h=>h
  |k+1,l,s,h=>qhP k (qE h)
theorem qhQ:∀(k:Nat) {l L:List Int} {s:RS} {zs:List Int},rsB s->qeW k l s=(L,some zs)-> ∃M ys,L=l++M/\s=some ys/\ys=M.flatMap (fun n=>qw n.toNat)++zs/\M.length=k/\ ∀n∈M,0<=n/\n<=9999
  |0,l,L,s,zs,hs,h=>by
    simp only[qeW,ib]at h
    obtain⟨rfl,rfl⟩:=h
    exact⟨[],zs,(iI _).symm,rfl,rfl,rfl,fun n hn=>by cases hn⟩
  |k+1,l,L,s,zs,hs,h=>by
    obtain⟨n,s1,hN⟩:∃a b,qO 10000 s=(a,b):=⟨_,_,rfl⟩
    have hb:=qE (lim:=10000) hs
    rw[qeW,hN]at h
    rw[hN]at hb
    dsimp only at h hb
    obtain⟨M,ys,q1,rfl,q3,q4,q5⟩:=qhQ k hb h
    obtain⟨us,e1,e2,e3,e4,e5⟩:=qa8 hs hN
    have e6:=e5 (by decide)
    refine⟨n::M,us,by rw[q1];simp,e1,by rw[e2,q3];simp,by simp[q4],fun x hx=>?_⟩
    rcases j8.1 hx with rfl|hx
    · exact⟨e3,by omega⟩
    · exact q5 x hx
def qiC (s:RS)(f:Bool):PS×RS×Bool:=
  let st:=qO 8 s
  let wi:=qO 8 st.2
  let u:=qb8 3 wi.2
  let m:=qb8 2 u.2
  let n:=qO 9 m.2
  let q:=qeW n.1.toNat [] n.2
  let x:=qb8 40 q.2
  (⟨st.1,mkU (qaT u.1),m.1,q.1,x.1,wi.1⟩,x.2,f&&qF ⟨st.1,mkU (qaT u.1),m.1,q.1,x.1,wi.1⟩)
theorem qg7 {s s1 s2 s3 s4 s5 s6 s7:RS}{f:Bool}{st wi n:Int}{u m x:ByteArray}{q:List Int}(h1:qO 8 s=(st,s1))(h2:qO 8 s1=(wi,s2))(h3:qb8 3 s2=(u,s3))(h4:qb8 2 s3=(m,s4))(h5:qO 9 s4=(n,s5))(h6:qeW n.toNat [] s5=(q,s6))(h7:qb8 40 s6=(x,s7)):
    qiC s f=(⟨st,mkU (qaT u),m,q,x,wi⟩,s7,f&&qF ⟨st,mkU (qaT u),m,q,x,wi⟩):=by
  unfold qiC;rw[h1];dsimp only;rw[h2];dsimp only;rw[h3];dsimp only;rw[h4];dsimp only;rw[h5];dsimp only;rw[h6];dsimp only;rw[h7]
structure ParsOk (p:PS):Prop where
  st:0<=p.state/\p.state<8
  wi:0<=p.within/\p.within<8
  u:p.utf.ok
  un:(p.utf.n).toNat=p.utf.pend.length/\p.utf.pend.length<=3
  m:p.marks.size<=2
  n:p.params.length<=8
  b:∀x∈p.params,0<=x/\x<=9999
  t:p.text.size<=40
  r:qF p=true
theorem qnn {s:RS}{f:Bool}{p:PS}{zs:List Int}(hs:rsB s)(h:qiC s f=(p,some zs,true)):∃ys,s=some ys/\ys=qcm p++zs/\f=true/\ParsOk p:=by
  obtain⟨st,c,d⟩:∃n c,qO 8 s=(n,c):=⟨_,_,rfl⟩
  obtain⟨wi,D,e⟩:∃n s',qO 8 c=(n,s'):=⟨_,_,rfl⟩
  obtain⟨u,E,g⟩:∃n s',qb8 3 D=(n,s'):=⟨_,_,rfl⟩
  obtain⟨m,F,i⟩:∃n s',qb8 2 E=(n,s'):=⟨_,_,rfl⟩
  obtain⟨n,G,j⟩:∃n s',qO 9 F=(n,s'):=⟨_,_,rfl⟩
  obtain⟨q,H,k⟩:∃q s',qeW n.toNat [] G=(q,s'):=⟨_,_,rfl⟩
  obtain⟨x,s7,z⟩:∃n s',qb8 40 H=(n,s'):=⟨_,_,rfl⟩
  rw[qg7 d e g i j k z]at h;simp only[ib,ii]at h;obtain⟨rfl,rfl,rfl,hr⟩:=h;have o:=qE (lim:=8) hs;rw[d]at o;have r:=qE (lim:=8) o;rw[e]at r;have t:=qdS (most:=3) r;rw[g]at t;have v:=qdS (most:=2) t;rw[i]at v;have w:=qE (lim:=9) v;rw[j]at w;have A:=qhP n.toNat (l:=[]) w;rw[k]at A;obtain⟨y7,I,J,p7⟩:=qcU A z (by decide);subst I;obtain⟨M,y6,B,K,L,N,O⟩:=qhQ _ w k;rw[iO]at B;subst B K;obtain⟨y5,P,Q,p5,_,R⟩:=qa8 v j;subst P;obtain⟨y4,S,T,p4⟩:=qcU t i (by decide);subst S;obtain⟨y3,U,V,p3⟩:=qcU r g (by decide);subst U;obtain⟨y2,W,X,Y,_,Z⟩:=qa8 o e;subst W;obtain⟨y1,e1,a1,p1,_,a3⟩:=qa8 hs d;have y:(qaT u).length<=3:=by rw[qeS];omega
  have C:=qlX y;have a4:qf (qaT u)=u:=by
    have:(qf (qaT u)).data.toList=u.data.toList:=by
      rw[qcz];unfold qaT;rw[jE];refine(ju fun b _=>?_).trans (List.map_id _);show UInt8.ofNat ((b.toNat:Int).toNat)=b;rw[ik];exact UInt8.ofNat_toNat
    cases hA:qf (qaT u)with
    |mk a=>
      rw[hA]at this;cases u with
      |mk b=>exact congrArg ByteArray.mk (js.1 this)
  have q5:=R (by decide);refine⟨y1,e1,?_,rfl,⟨⟨p1,a3 (by decide)⟩,⟨Y,Z (by decide)⟩,qoA (qgE u) y,?_,by dsimp only;omega,by dsimp only;omega,O,by dsimp only;omega,hr⟩⟩
  · unfold qcm
    dsimp only;rw[C,a4,a1,X,V,T,Q,L,J,<-N];simp only[ie]
  · dsimp only
    rw[C];exact⟨by show(((qaT u).length:Nat):Int).toNat=_;omega,y⟩
def qbD (T:TS):List Bool:=[T.wrap,T.origin,T.insert,T.hidden,T.alt,T.draw0,T.draw1,T.shift]
def qZ (T:TS):List Int:=qw T.grid.w.toNat++(qw T.grid.h.toNat++(qw T.top.toNat++(qw T.bot.toNat++(qw (qab (qbD T))++(qw (qai T.tabs 60)++(qea T.cursor++(qea T.saved++(qea T.away++
  (T.grid.lines.flatMap qa5++(T.other.lines.flatMap qa5++(qw T.back.length++(qbS T.back++(qbr T.title++(qbr T.reply++qcm T.parser))))))))))))))
def qfP (tb k:Nat)(i:Nat):Bool:=if i<k then qel tb i else qil 7 i
def qfQ (w h top bot n tb:Int):TS:={startT zeroT w h with top:=top,bot:=bot,wrap:=qel n.toNat 0,origin:=qel n.toNat 1,insert:=qel n.toNat 2,hidden:=qel n.toNat 3,alt:=qel n.toNat 4,draw0:=qel n.toNat 5,draw1:=qel n.toNat 6,shift:=qel n.toNat 7,tabs:=qfP tb.toNat 60}
def qjV (T:TS)(W H:Int)(s:RS):Option TS:=
  let a:=qiV W H s
  let b:=qiV W H a.2.2
  let c:=qiV W H b.2.2
  let d:=qal W H.toNat [] c.2.2 ((a.2.1&&b.2.1)&&c.2.1)
  let e:=qal W H.toNat [] d.2.1 d.2.2
  let k:=qfO e.2.1 e.2.2
  let t:=qb8 40 k.2.1
  let r:=qb8 400 t.2
  let p:=qiC r.2 k.2.2
  if p.2.2=true/\p.2.1=some []then some {T with cursor:=a.1,saved:=b.1,away:=c.1,grid:=⟨W,H,d.1⟩,other:=⟨W,H,e.1⟩,back:=k.1,title:=t.1,reply:=r.1,parser:=p.1}else none
def qiD (s:RS):Option TS×RS:=
  let w:=qO 61 s
  let h:=qO 61 w.2
  let a:=qO (h.1+1) h.2
  let b:=qO (h.1+1) a.2
  let n:=qO 256 b.2
  let t:=qO 1152921504606846976 n.2
  if t.2.isSome=false\/w.1<1\/h.1<1\/b.1<=a.1 then(none,t.2)else(some (qfQ w.1 h.1 a.1 b.1 n.1 t.1),t.2)
theorem qd6 {s s1 s2 s3 s4 s5 s6:RS}{w v a b n t:Int}(h1:qO 61 s=(w,s1))(h2:qO 61 s1=(v,s2))(h3:qO (v+1) s2=(a,s3))(h4:qO (v+1) s3=(b,s4))(h5:qO 256 s4=(n,s5))(h6:qO 1152921504606846976 s5=(t,s6)):
    qiD s=if s6.isSome=false\/w<1\/v<1\/b<=a then(none,s6)else(some (qfQ w v a b n t),s6):=by
  unfold qiD;rw[h1];dsimp only;rw[h2];dsimp only;rw[h3];dsimp only;rw[h4];dsimp only;rw[h5];dsimp only;rw[h6]
def qlZ (s:RS):Option TS:=match qiD s with
  |(none,_)=>none
  |(some T,s1)=>qjV T T.grid.w T.grid.h s1
structure DecOk (T:TS):Prop where
  w:1<=T.grid.w/\T.grid.w<=60
  h:1<=T.grid.h/\T.grid.h<=60
  o:T.other.w=T.grid.w/\T.other.h=T.grid.h
  t:0<=T.top/\T.top<T.bot/\T.bot<=T.grid.h
  c:CurOk T.grid.w T.grid.h T.cursor
  s:CurOk T.grid.w T.grid.h T.saved
  a:CurOk T.grid.w T.grid.h T.away
  g:T.grid.lines.length=T.grid.h.toNat/\ ∀l∈T.grid.lines,(l.length:Int)=T.grid.w/\qb3 l=true/\ ∀c∈l,cOk c
  g2:T.other.lines.length=T.grid.h.toNat/\ ∀l∈T.other.lines,(l.length:Int)=T.grid.w/\qb3 l=true/\ ∀c∈l,cOk c
  k:T.back.length<=20/\ ∀l∈T.back,0<l.length/\l.length<=60/\qb3 l=true/\ ∀c∈l,cOk c
  ti:T.title.size<=40
  r:T.reply.size<=400
  p:ParsOk T.parser
theorem qno {T T':TS}{W H:Int}{s:RS}(hs:rsB s)(hW:1<=W/\W<=60)(hH:1<=H/\H<=60)(ht:0<=T.top/\T.top<T.bot/\T.bot<=H)(h:qjV T W H s=some T'):∃ys,s=some ys/\
    ys=qea T'.cursor++(qea T'.saved++(qea T'.away++(T'.grid.lines.flatMap qa5++(T'.other.lines.flatMap qa5++(qw T'.back.length++(qbS T'.back++(qbr T'.title++(qbr T'.reply++qcm T'.parser))))))))/\DecOk T'/\T'.grid.w=W/\T'.grid.h=H/\T'.top=T.top/\T'.bot=T.bot/\qbD T'=qbD T/\T'.tabs=T.tabs:=by
  obtain⟨a,ha,i,j⟩:∃a o i,qiV W H s=(a,o,i):=⟨_,_,_,rfl⟩
  obtain⟨b,hb,M,l⟩:∃a o s',qiV W H i=(a,o,s'):=⟨_,_,_,rfl⟩
  obtain⟨c,hc,N,m⟩:∃a o s',qiV W H M=(a,o,s'):=⟨_,_,_,rfl⟩
  obtain⟨d,O,f4,n⟩:∃d s' f,qal W H.toNat [] N ((ha&&hb)&&hc)=(d,s',f):=⟨_,_,_,rfl⟩
  obtain⟨e,g,f5,q⟩:∃d s' f,qal W H.toNat [] O f4=(d,s',f):=⟨_,_,_,rfl⟩
  obtain⟨k,u,f6,v⟩:∃d s' f,qfO g f5=(d,s',f):=⟨_,_,_,rfl⟩
  obtain⟨t,P,x⟩:∃d s',qb8 40 u=(d,s'):=⟨_,_,rfl⟩
  obtain⟨r,Q,y⟩:∃d s',qb8 400 P=(d,s'):=⟨_,_,rfl⟩
  obtain⟨p,s9,f9,F⟩:∃d s' f,qiC Q f6=(d,s',f):=⟨_,_,_,rfl⟩
  unfold qjV at h;rw[j]at h;dsimp only at h;rw[l]at h;dsimp only at h;rw[m]at h;dsimp only at h;rw[n]at h;dsimp only at h;rw[q]at h;dsimp only at h;rw[v]at h;dsimp only at h;rw[x]at h;dsimp only at h;rw[y]at h;dsimp only at h;rw[F]at h;dsimp only at h;split at h
  · rename_i hz
    obtain⟨rfl,rfl⟩:=hz;obtain rfl:=ia h;have z:=qgI (W:=W) (H:=H) hs;rw[j]at z;have A:=qgI (W:=W) (H:=H) z;rw[l]at A;have B:=qgI (W:=W) (H:=H) A;rw[m]at B;have C:=qbF (W:=W) H.toNat (out:=[]) (f:=(ha&&hb)&&hc) B;rw[n]at C;have D:=qbF (W:=W) H.toNat (out:=[]) (f:=f4) C;rw[q]at D;have G:rsB u:=by have:=qhN (qO 21 g).1.toNat (out:=[]) (f:=f5) (qE (lim:=21) D);have e:qe9 (qO 21 g).1.toNat [] (qO 21 g).2 f5=(k,u,f6):=v;rw[e]at this;exact this
    have E:=qdS (most:=40) G;rw[x]at E;have I:=qdS (most:=400) E;rw[y]at I;obtain⟨y9,R,S,rfl,hp⟩:=qnn I F;subst R;obtain⟨y8,U,V,hr⟩:=qcU E y (by decide);subst U;obtain⟨y7,X,Y,ay⟩:=qcU G x (by decide);subst X;obtain⟨y6,z6,Z,e6,a1,a2,a3,a4⟩:=qnl D v rfl;subst Z e6;obtain rfl:=ia a1;obtain⟨M2,y5,z5,a5,J,e5,a7,a8,a9,aa⟩:=qd5 (by omega) _ C (.inr (by omega)) q;rw[iO]at J;subst J a5 e5;obtain rfl:=ia a7;obtain⟨M1,y4,z4,K,L,e4,ac,ad,ae,af⟩:=qd5 (by omega) _ B (.inr (by omega)) n;rw[iO]at L;subst L e4;obtain rfl:=ia ac;rw[ii,ii]at K;obtain⟨⟨rfl,rfl⟩,rfl⟩:=K;obtain⟨y3,z3,e3,ah,ai,aj⟩:=qgJ A (by omega) (by omega) m;subst e3;obtain rfl:=ia ah;obtain⟨y2,z2,e2,al,am,an⟩:=qgJ z (by omega) (by omega) l;subst e2;obtain rfl:=ia al;obtain⟨y1,z1,e1,ap,aq,ar⟩:=qgJ hs (by omega) (by omega) j;obtain rfl:=ia ap;refine⟨y1,e1,?_,⟨hW,hH,⟨rfl,rfl⟩,ht,ar,an,aj,⟨ae,af⟩,⟨a9,aa⟩,⟨a3,a4⟩,by dsimp only;omega,by dsimp only;omega,hp⟩,rfl,rfl,rfl,rfl,rfl,rfl⟩;dsimp only;rw[aq,am,ai,ad,a8,a2,Y,V,S,iI]
  · cases h
theorem qjW {s:RS}{T:TS}(hs:rsB s)(h:qlZ s=some T):∃ys,s=some ys/\ys=qZ T/\DecOk T:=by
  obtain⟨w,A,e⟩:∃d s',qO 61 s=(d,s'):=⟨_,_,rfl⟩
  obtain⟨v,B,f⟩:∃d s',qO 61 A=(d,s'):=⟨_,_,rfl⟩
  obtain⟨a,C,g⟩:∃d s',qO (v+1) B=(d,s'):=⟨_,_,rfl⟩
  obtain⟨b,E,j⟩:∃d s',qO (v+1) C=(d,s'):=⟨_,_,rfl⟩
  obtain⟨n,F,k⟩:∃d s',qO 256 E=(d,s'):=⟨_,_,rfl⟩
  obtain⟨t,s6,l⟩:∃d s',qO 1152921504606846976 F=(d,s'):=⟨_,_,rfl⟩
  unfold qlZ at h;rw[qd6 e f g j k l]at h;split at h
  · cases h
  · rename_i T0 s7 c
    split at c
    · cases c
    rename_i hc;simp only[ib,ij]at c;obtain⟨rfl,rfl⟩:=c;simp only[not_or]at hc;obtain⟨c1,c2,c3,c4⟩:=hc;have m:=qE (lim:=61) hs;rw[e]at m;have o:=qE (lim:=61) m;rw[f]at o;have p:=qE (lim:=v+1) o;rw[g]at p;have q:=qE (lim:=v+1) p;rw[j]at q;have r:=qE (lim:=256) q;rw[k]at r;have D:=qE (lim:=1152921504606846976) r;rw[l]at D;have u:=qa9 (lim:=61) (s:=s);rw[e]at u;have x:=qa9 (lim:=61) (s:=A);rw[f]at x;have G:=u.2.2 (by decide);have H:=x.2.2 (by decide);dsimp only at u x G H;have y:=qa9 (lim:=v+1) (s:=B);rw[g]at y;have z:=qa9 (lim:=v+1) (s:=C);rw[j]at z;have I:=y.2.2 (by omega);have J:=z.2.2 (by omega);dsimp only at y z I J;have K:(qfQ w v a b n t).grid.w=w:=by show qi w=w;unfold qi;omega
    have L:(qfQ w v a b n t).grid.h=v:=by show qi v=v;unfold qi;omega
    rw[K,L]at h;obtain⟨y6,M,N,hd,O,P,Q,R,S,U⟩:=qno D (by omega) (by omega) (by show 0<=a/\a<b/\b<=v;omega) h;subst M;obtain⟨y5,V,W,p5,_,X⟩:=qa8 r l;subst V;obtain⟨y4,Y,Z,p4,_,a0⟩:=qa8 q k;subst Y;obtain⟨y3,e3,a4,_⟩:=qa8 p j;subst e3;obtain⟨y2,e2,a6,_⟩:=qa8 o g;subst e2;obtain⟨y1,e1,a8,_⟩:=qa8 m f;subst e1;obtain⟨y0,c,aa,_⟩:=qa8 hs e;refine⟨y0,c,?_,hd⟩;have q4:=a0 (by decide);have q5:=X (by decide);have m1:qab (qbD T)=n.toNat:=by
      rw[S];have:qab (qbD (qfQ w v a b n t))=qai (qel n.toNat) 8:=qcA fun i hi=>by
        have:i=0\/i=1\/i=2\/i=3\/i=4\/i=5\/i=6\/i=7:=by have:i<8:=hi;omega
        rcases this with rfl|rfl|rfl|rfl|rfl|rfl|rfl|rfl<;>rfl
      rw[this,qfp];exact jW (by omega)
    have m2:qai T.tabs 60=t.toNat:=by
      rw[U];have:qai (qfQ w v a b n t).tabs 60=qai (qel t.toNat) 60:=qcA fun i hi=>by show(if i<60 then _ else _)=_;rw[if_pos hi]
      rw[this,qfp];exact jW (by omega)
    unfold qZ;rw[m1,m2,O,P,Q,R,aa,a8,a6,a4,Z,W,N];rfl
theorem qaa {lim:Int}{n:Nat}(r:List Int)(h:n<2^63)(hl:0<lim->(n:Int)<lim):qO lim (some (qw n++r))=((n:Int),some r):=by
 rw[qO,qjO r (by omega)];dsimp only;have a:¬(qw n).length=0:=fun e=>qp2 9 n (iv e);rw[if_neg (by rintro (h|h|h);exact a h;omega;have:=hl h.1;omega),List.drop_left' rfl]
theorem qcX {most:Int}{x:ByteArray}(r:List Int)(h0:0<most/\most<=1000000)(h:(x.size:Int)<=most):qb8 most (some (qbr x++r))=(qf (qaT x),some r):=by
 unfold qb8 qbr;rw[if_pos h0.1,ie,qaa _ (by omega) (fun _=>by omega)];dsimp only;have hl:=qeS x;rw[if_neg (by rw[hZ];omega),ik,<-hl,List.take_left' rfl,List.drop_left' rfl]
theorem qdB (x:ByteArray):qf (qaT x)=x:=by
 have:(qf (qaT x)).data.toList=x.data.toList:=by
  rw[qcz];unfold qaT;rw[jE];refine(ju fun b _=>?_).trans (List.map_id _);show UInt8.ofNat ((b.toNat:Int).toNat)=b;rw[ik];exact UInt8.ofNat_toNat
 cases hA:qf (qaT x)with
 |mk a=>
  rw[hA]at this;cases x with
  |mk b=>exact congrArg ByteArray.mk (js.1 this)
theorem qm0 {s:Sty}(r:List Int)(h:qC s=true):qgF (some (qw (qbE s)++r))=(s,true,some r):=by
 have hb:=qeT h;unfold qgF;rw[qaa r (by omega) (fun _=>by omega)];dsimp only;rw[ik,qkV s h,if_pos (by rw[h];rfl)]
theorem qiE {W H:Int}{c:Cur}(r:List Int)(hc:CurOk W H c)(hW:W<=60)(hH:H<=60):qiV W H (some (qea c++r))=(c,true,some r):=by
 obtain⟨x,y,l,s⟩:=c;obtain⟨hx,hy,hl,hs⟩:=hc;dsimp only at hx hy hl hs;have a:qO W (some (qea ⟨x,y,l,s⟩++r))=(x,some (qw y.toNat++(qw (qab [l])++(qw (qbE s)++r)))):=by
  unfold qea;simp only[ie];rw[qaa _ (by omega) (fun _=>by omega),j7 hx.1]
 have b:qO H (some (qw y.toNat++(qw (qab [l])++(qw (qbE s)++r))))=(y,some (qw (qab [l])++(qw (qbE s)++r))):=by
  rw[qaa _ (by omega) (fun _=>by omega),j7 hy.1]
 have hf:qab [l]=if l=true then 1 else 0:=by cases l<;>rfl
 have d:qO 2 (some (qw (qab [l])++(qw (qbE s)++r)))=(((qab [l]:Nat):Int),some (qw (qbE s)++r)):=qaa _ (by rw[hf];split<;>omega) (fun _=>by rw[hf];split<;>omega);rw[qfr a b d (qm0 r hs)];have e:(((qab [l]:Nat):Int)==1)=l:=by rw[hf];cases l<;>rfl
 rw[e];cases l with
 |false=>rfl
 |true=>
  have:=hl rfl;rw[this];simp
theorem qeX (c:Cel):∀(l:List Cel),∃n r,c::l=List.replicate (n+1) c++r/\r.head? ≠some c
 |[]=>⟨0,[],rfl,by simp⟩
 |d::l=>by
  by_cases h:d=c
  ·subst h
   obtain⟨n,r,e,hr⟩:=qeX d l
   exact⟨n+1,r,by rw[List.replicate_succ,List.cons_append,<-e],hr⟩
  ·exact⟨0,d::l,rfl,by simp[h]⟩
theorem qjX:∀(f:Nat) (W:Int) (out l:List Cel) (r:List Int),(∀c∈l,cOk c)->((out.length+l.length:Nat):Int)=W->W<=1000->l.length<=f->(l=[]\/out.getLast? ≠l.head?)->qc0 f W out (some (qa5 l++r))=(some (out++l),some r)
 |f,W,out,[],r,_,hW,_,_,_=>by
  rw[qcV (by simp at hW;omega),iI];rfl
 |0,W,out,c::l,r,_,_,_,hf,_=>by simp at hf
 |f+1,W,out,c::l,r,hc,hW,hW2,hf,hne=>by
  obtain⟨n,l',e,hl'⟩:=qeX c l
  have hlen:(c::l).length=(n+1)+l'.length:=by rw[e,hZ,ir]
  have a:=hc c (jc ..)
  obtain⟨b,g,q⟩:=a
  have i:out.getLast? ≠some c:=hne.resolve_left (by simp)
  rw[e,qdy hl' n]
  have j:¬W<=(out.length:Int):=by rw[hlen]at hW;omega
  have k:(0:Int)<W-(out.length:Int)+1->(((n+1:Nat)):Int)<W-(out.length:Int)+1:=fun _=>by rw[hlen]at hW;omega
  have m:qO (W-(out.length:Int)+1) (some ((qdx (n+1) c++qa5 l')++r))=(((n+1:Nat):Int),some (qw c.rune.toNat++(qw (qbE c.sty)++(qa5 l'++r)))):=by
   unfold qdx;simp only[ie];exact qaa _ (by rw[hlen]at hW;omega) k
  have o:qO 1114112 (some (qw c.rune.toNat++(qw (qbE c.sty)++(qa5 l'++r))))=(c.rune,some (qw (qbE c.sty)++(qa5 l'++r))):=by
   rw[qaa _ (by omega) (fun _=>by omega),j7 g]
  have p:=qm0 (qa5 l'++r) b;have hS:=qcB (W:=W) (out:=out) m o p;rw[if_neg (by rintro (h|h|h);cases h;omega;exact i h)]at hS;rw[qc0,if_neg j,hS];dsimp only;rw[ik];have ih:=qjX f W (out++List.replicate (n+1) c) l' r (fun d hd=>hc d (by rw[e];exact k8 _ hd)) (by rw[hZ,ir];rw[hlen]at hW;omega) hW2 (by omega) (by
   cases l' with
   |nil=>exact .inl rfl
   |cons d l'=>
    right;have:(out++List.replicate (n+1) c).getLast? =some c:=by rw[jK,<-ie,List.getLast?_append];rfl
    rw[this];exact fun h=>hl' h.symm)
  rw[show(⟨c.rune,c.sty⟩:Cel)=c from rfl,ih,ie]
theorem qpf {W:Int}{l:List Cel}(r:List Int)(hc:∀c∈l,cOk c)(hl:(l.length:Int)=W)(hW:W<=1000)(hw:qb3 l=true):qdz W (some (qa5 l++r))=(l,true,some r):=by
 have:=qjX W.toNat W [] l r hc (by simpa using hl) hW (by omega) (by
  cases l with
  |nil=>exact .inl rfl
  |cons c l=>exact .inr (by simp))
 unfold qdz;rw[this,iO];dsimp only;rw[if_pos hw]
def LnOk (W:Int)(l:List Cel):Prop:=(l.length:Int)=W/\qb3 l=true/\ ∀c∈l,cOk c
theorem qdT {W:Int}(hW:W<=1000):∀(L out:List (List Cel)) (r:List Int),(∀l∈L,LnOk W l)->qal W L.length out (some (L.flatMap qa5++r)) true=(out++L,some r,true)
 |[],out,r,_=>by rw[iI];rfl
 |l::L,out,r,h=>by
  obtain⟨h1,h2,h3⟩:=h l (jc ..)
  rw[iy,qal,jj,ie,qpf _ h3 h1 hW h2]
  dsimp only
  rw[if_pos (show(true&&true)=true from rfl),qdT hW L _ r (fun m hm=>h m (j4 _ hm)),ie]
  rfl
theorem qjY:∀(B out:List (List Cel)) (r:List Int),(∀l∈B,0<l.length/\l.length<=60/\qb3 l=true/\ ∀c∈l,cOk c)->qe9 B.length out (some (qbS B++r)) true=(out++B,some r,true)
 |[],out,r,_=>by rw[iI];rfl
 |l::B,out,r,h=>by
  obtain⟨h0,h1,h2,h3⟩:=h l (jc ..)
  have e:qbS (l::B)++r=qw l.length++(qa5 l++(qbS B++r)):=by unfold qbS;simp
  have b:=qaa (lim:=61) (n:=l.length) (qa5 l++(qbS B++r)) (by omega) (fun _=>by omega)
  have a:=qdT (W:=(l.length:Int)) (by omega) [l] [] (qbS B++r) (fun m hm=>by rw[iD.1 hm];exact⟨rfl,h2,h3⟩)
  have d:[l].flatMap qa5++(qbS B++r)=qa5 l++(qbS B++r):=by simp
  rw[d]at a
  rw[e,iy,qe9,b]
  dsimp only
  rw[show qal (l.length:Int) 1 [] (some (qa5 l++(qbS B++r))) true=_ from a]
  dsimp only
  rw[if_pos (by rw[jb (show(0:Int)<(l.length:Int) by omega)];rfl),qjY B _ r (fun m hm=>h m (j4 _ hm))]
  simp
theorem qpg {B:List (List Cel)}(r:List Int)(hB:B.length<=20)(h:∀l∈B,0<l.length/\l.length<=60/\qb3 l=true/\ ∀c∈l,cOk c):qfO (some (qw B.length++(qbS B++r))) true=(B,some r,true):=by
 unfold qfO;rw[qaa _ (by omega) (fun _=>by omega)];dsimp only;rw[ik,qjY B [] r h];rfl
theorem qjZ:∀(q l:List Int) (r:List Int),(∀x∈q,0<=x/\x<=9999)->qeW q.length l (some (q.flatMap (fun n=>qw n.toNat)++r))=(l++q,some r)
 |[],l,r,_=>by rw[iI];rfl
 |x::q,l,r,h=>by
  have hx:=h x (jc ..)
  rw[iy,qeW,jj,ie,qaa _ (by omega) (fun _=>by omega)]
  dsimp only
  rw[j7 hx.1,qjZ q _ r (fun y hy=>h y (j4 _ hy)),ie]
  rfl
theorem qph {u:US}(h:utB u=true)(ho:u.ok):mkU u.pend=u:=by
 obtain⟨a,b,c,n⟩:=u;unfold utB at h;simp only[ii,io]at h;obtain⟨⟨⟨d,e⟩,hz⟩,_⟩:=h;have hn:n=0\/n=1\/n=2\/n=3:=by omega
 unfold mkU US.pend;rcases hn with rfl|rfl|rfl|rfl
 ·simp at hz⊢;omega
 ·simp at hz⊢;omega
 ·simp at hz⊢;omega
 ·simp
theorem qpi {p:PS}(h:qF p=true):utB p.utf=true:=by
 unfold qF at h;split at h
 ·cases h
 ·rename_i a
  split at h
  ·simp only[ii]at h
   exact h.1.1
  ·rename_i b
   have hb:qcW p.utf=true:=by
    cases e:qcW p.utf with
    |true=>rfl
    |false=>exact absurd (.inr ⟨b,e⟩) a
   unfold qcW at hb;simp only[ii,iV]at hb;obtain⟨⟨⟨c,d⟩,f⟩,g⟩:=hb;unfold utB US.pend;rw[c,d,f,g];decide
theorem qpj {p:PS}(r:List Int)(h:ParsOk p):qiC (some (qcm p++r)) true=(p,some r,true):=by
 obtain⟨st,u,m,q,x,wi⟩:=p;obtain⟨b,c,a,j,k,l,d,o,e⟩:=h;dsimp only at b c a j k l d o;have s:mkU u.pend=u:=qph (qpi e) a;have A:(qf u.pend).size=u.pend.length:=qbs _;have t:qaT (qf u.pend)=u.pend:=qiB a.pend;have v:qO 8 (some (qcm ⟨st,u,m,q,x,wi⟩++r))=(st,some (qw wi.toNat++(qbr (qf u.pend)++(qbr m++(qw q.length++(q.flatMap (fun n=>qw n.toNat)++(qbr x++r))))))):=by
  unfold qcm;simp only[ie];rw[qaa _ (by omega) (fun _=>by omega),j7 b.1]
 have w:qO 8 (some (qw wi.toNat++(qbr (qf u.pend)++(qbr m++(qw q.length++(q.flatMap (fun n=>qw n.toNat)++(qbr x++r)))))))=(wi,some (qbr (qf u.pend)++(qbr m++(qw q.length++(q.flatMap (fun n=>qw n.toNat)++(qbr x++r)))))):=by
  rw[qaa _ (by omega) (fun _=>by omega),j7 c.1]
 have f:=qcX (most:=3) (x:=qf u.pend) (qbr m++(qw q.length++(q.flatMap (fun n=>qw n.toNat)++(qbr x++r)))) (by decide) (by omega);have g:=qcX (most:=2) (x:=m) (qw q.length++(q.flatMap (fun n=>qw n.toNat)++(qbr x++r))) (by decide) (by omega);have y:=qaa (lim:=9) (n:=q.length) (q.flatMap (fun n=>qw n.toNat)++(qbr x++r)) (by omega) (fun _=>by omega);have z:=qjZ q [] (qbr x++r) d;have i:=qcX (most:=40) (x:=x) r (by decide) (by omega);rw[qdB]at f g i;rw[qg7 v w f g y (by rw[ik];exact z) i,t,s,iO,e];rfl
theorem qpk {T T':TS}{W H:Int}(r:List Int)(h:DecOk T')(hW:T'.grid.w=W)(hH:T'.grid.h=H):
  qjV T W H (some ((qea T'.cursor++(qea T'.saved++(qea T'.away++(T'.grid.lines.flatMap qa5++(T'.other.lines.flatMap qa5++(qw T'.back.length++(qbS T'.back++(qbr T'.title++(qbr T'.reply++qcm T'.parser)))))))))++r))=
   if r=[]then some {T with cursor:=T'.cursor,saved:=T'.saved,away:=T'.away,grid:=T'.grid,other:=T'.other,back:=T'.back,title:=T'.title,reply:=T'.reply,parser:=T'.parser}else none:=by
 obtain⟨dw,dh,⟨f,g⟩,dt,dc,ds,da,dg,a,dk,n,dr,dp⟩:=h;subst hW hH;have i:=qiE (qea T'.saved++(qea T'.away++(T'.grid.lines.flatMap qa5++(T'.other.lines.flatMap qa5++(qw T'.back.length++(qbS T'.back++(qbr T'.title++(qbr T'.reply++(qcm T'.parser++r))))))))) dc dw.2 dh.2;have j:=qiE (qea T'.away++(T'.grid.lines.flatMap qa5++(T'.other.lines.flatMap qa5++(qw T'.back.length++(qbS T'.back++(qbr T'.title++(qbr T'.reply++(qcm T'.parser++r)))))))) ds dw.2 dh.2;have k:=qiE (T'.grid.lines.flatMap qa5++(T'.other.lines.flatMap qa5++(qw T'.back.length++(qbS T'.back++(qbr T'.title++(qbr T'.reply++(qcm T'.parser++r))))))) da dw.2 dh.2;have b:=qdT (W:=T'.grid.w) (by omega) T'.grid.lines [] (T'.other.lines.flatMap qa5++(qw T'.back.length++(qbS T'.back++(qbr T'.title++(qbr T'.reply++(qcm T'.parser++r)))))) dg.2;have c:=qdT (W:=T'.grid.w) (by omega) T'.other.lines [] (qw T'.back.length++(qbS T'.back++(qbr T'.title++(qbr T'.reply++(qcm T'.parser++r))))) a.2;have l:=qpg (B:=T'.back) (qbr T'.title++(qbr T'.reply++(qcm T'.parser++r))) dk.1 dk.2;have d:=qcX (most:=40) (x:=T'.title) (qbr T'.reply++(qcm T'.parser++r)) (by decide) (by omega);have e:=qcX (most:=400) (x:=T'.reply) (qcm T'.parser++r) (by decide) (by omega);have m:=qpj r dp;rw[qdB]at d e
 rw[dg.1]at b;rw[a.1]at c;simp only[ie];unfold qjV;rw[i];dsimp only;rw[j];dsimp only;rw[k];dsimp only;rw[show((true&&true)&&true)=true from rfl,b];dsimp only;rw[c];dsimp only;rw[l];dsimp only;rw[d];dsimp only;rw[e];dsimp only;rw[m];dsimp only;rw[iO,iO];have eg:(⟨T'.grid.w,T'.grid.h,T'.grid.lines⟩:Gr)=T'.grid:=rfl;have eo:(⟨T'.grid.w,T'.grid.h,T'.other.lines⟩:Gr)=T'.other:=by
  rw[<-f,<-g]
 rw[eg,eo];by_cases hr:r=[]
 ·rw[if_pos hr,if_pos ⟨rfl,by rw[hr]⟩]
 ·rw[if_neg hr,if_neg (by rintro ⟨_,h⟩;exact hr (ia h))]
def qpl (T:TS):TS:={T with tabs:=qfP (qai T.tabs 60) 60}
theorem qeb (f:Nat->Bool):∀(k i:Nat),i<k->qel (qai f k) i=f i
 |0,i,h=>by omega
 |k+1,i,h=>by
  have hlt:=qby f k
  rw[qai]
  unfold qel
  by_cases hi:i=k
  ·subst hi
   cases hf:f i with
   |true=>
    rw[if_pos rfl,Nat.add_div_right _ (Nat.pow_pos (by decide)),Nat.div_eq_of_lt hlt];rfl
   |false=>
    simp only[iu,↓reduceIte,Nat.add_zero]
    rw[Nat.div_eq_of_lt hlt];rfl
  ·have ih:=qeb f k i (by omega)
   unfold qel at ih
   rw[<-ih]
   split
   ·have e:2^k=2^i*(2*2^(k-i-1)):=by
     rw[<-Nat.pow_succ',<-Nat.pow_add];congr 1;omega
    rw[e,Nat.add_mul_div_left _ _ (Nat.pow_pos (by decide)),Nat.add_mul_mod_self_left]
   ·rw[Nat.add_zero]
theorem decT_put {T:TS}(h:DecOk T)(r:List Int):qlZ (some (qZ T++r))=if r=[]then some (qpl T)else none:=by
 have hw:=h.w;have hh:=h.h;have ht:=h.t;have l:qab (qbD T)<2^8:=qby _ 8;have m:=qby T.tabs 60;have e:qZ T++r=qw T.grid.w.toNat++(qw T.grid.h.toNat++(qw T.top.toNat++(qw T.bot.toNat++(qw (qab (qbD T))++(qw (qai T.tabs 60)++((qea T.cursor++(qea T.saved++(qea T.away++(T.grid.lines.flatMap qa5++(T.other.lines.flatMap qa5++(qw T.back.length++(qbS T.back++(qbr T.title++(qbr T.reply++qcm T.parser)))))))))++r)))))):=by
  unfold qZ;simp only[ie]
 rw[e];generalize hR:(qea T.cursor++(qea T.saved++(qea T.away++(T.grid.lines.flatMap qa5++(T.other.lines.flatMap qa5++(qw T.back.length++(qbS T.back++(qbr T.title++(qbr T.reply++qcm T.parser)))))))))++r=R;have a:=qaa (lim:=61) (n:=T.grid.w.toNat) (qw T.grid.h.toNat++(qw T.top.toNat++(qw T.bot.toNat++(qw (qab (qbD T))++(qw (qai T.tabs 60)++R))))) (by omega) (fun _=>by omega);have b:=qaa (lim:=61) (n:=T.grid.h.toNat) (qw T.top.toNat++(qw T.bot.toNat++(qw (qab (qbD T))++(qw (qai T.tabs 60)++R)))) (by omega) (fun _=>by omega);have c:=qaa (lim:=T.grid.h+1) (n:=T.top.toNat) (qw T.bot.toNat++(qw (qab (qbD T))++(qw (qai T.tabs 60)++R))) (by omega) (fun _=>by omega);have d:=qaa (lim:=T.grid.h+1) (n:=T.bot.toNat) (qw (qab (qbD T))++(qw (qai T.tabs 60)++R)) (by omega) (fun _=>by omega);have f:=qaa (lim:=256) (n:=qab (qbD T)) (qw (qai T.tabs 60)++R) (by omega) (fun _=>by omega);have g:=qaa (lim:=1152921504606846976) (n:=qai T.tabs 60) R (by omega) (fun _=>by omega);rw[j7 (by omega)]at a b c d;unfold qlZ;rw[qd6 a b c d f g,if_neg (by rintro (h|h|h|h);cases h;omega;omega;omega)];dsimp only;have j:(qfQ T.grid.w T.grid.h T.top T.bot ((qab (qbD T):Nat):Int) ((qai T.tabs 60:Nat):Int)).grid.w=T.grid.w:=by show qi T.grid.w=_;unfold qi;omega
 have k:(qfQ T.grid.w T.grid.h T.top T.bot ((qab (qbD T):Nat):Int) ((qai T.tabs 60:Nat):Int)).grid.h=T.grid.h:=by show qi T.grid.h=_;unfold qi;omega
 rw[j,k,<-hR,qpk r h rfl rfl];have hm:∀i,i<8->qel (qab (qbD T)) i=lb (qbD T) i:=fun i hi=>qeb _ 8 i hi;by_cases hr:r=[]
 ·rw[if_pos hr,if_pos hr]
  refine congrArg some ?_;unfold qfQ qpl;simp only[ik];rw[hm 0 (by decide),hm 1 (by decide),hm 2 (by decide),hm 3 (by decide),hm 4 (by decide),hm 5 (by decide),hm 6 (by decide),hm 7 (by decide)];rfl
 ·rw[if_neg hr,if_neg hr]
theorem qm1:zb ByteArray.empty=true:=beq_self_eq_true _
theorem qkW {n:Nat}{p:Nat->Bool}(h:∀i,i<n->p i=true):(List.range n).all p=true:=j0.2 fun i hi=>h i (jz.1 hi)
theorem qpm {c:Int}(h:lowM c):qjU c=true:=by unfold qjU;simp[h.1,h.2]
theorem qpn {c:Int}(h:wideM c):qbT c=true:=by
 unfold qbT;rcases h with h|h
 ·rw[qpm h];rfl
 ·simp[h.1,h.2]
theorem utB_of {u:US}(h:uR u):utB u=true:=by
 obtain⟨a,b,c,n⟩:=u;obtain⟨⟨i,j⟩,g,f,e,d⟩:=h;dsimp only at i j g f e d;have hn:n=0\/n=1\/n=2\/n=3:=by omega
 unfold utB;rcases hn with rfl|rfl|rfl|rfl
 ·rw[g (by decide),f (by decide),e (by decide)];decide
 ·rw[f (by decide),e (by decide)]at d⊢
  have:=d.resolve_left (by decide);simp[this]
 ·rw[e (by decide)]at d⊢
  have:=d.resolve_left (by decide);simp[this]
 ·have:=d.resolve_left (by decide)
  simp[this]
theorem qnp {p:PS}(h:PRight p)(hl:p.lim):qF p=true:=by
 have r:=h.st;have hb:p.state≠0->qcW p.utf=true:=fun e=>by rw[h.u e];decide
 have hm:p.state≠2->p.state≠3->p.state≠4->zb p.marks=true:=fun a b c=>by rw[h.m a b c];exact qm1
 have hn:p.state≠3->p.state≠4->(p.params.length==0)=true:=fun a b=>by rw[h.n a b];rfl
 have ht:p.state<=4->zb p.text=true:=fun a=>by rw[h.t a];exact qm1
 have hx:qdA p.text=true:=by
  unfold qdA;rw[qkW fun i hi=>jb (h.t5 i hi),jb hl.t];rfl
 have hq:qgL p.params=true:=by
  unfold qgL;rw[jb hl.n,ke];exact j0.2 fun x hx=>by have:=hl.b x hx;simp[this.1,this.2]
 have l:=h.wi;unfold qF qgK;rw[if_neg (by
  rintro (⟨a,b⟩|⟨a,b⟩)
  ·exact b (l a)
  ·rw[hb a]at b;cases b)]
 by_cases j:p.state=0
 ·rw[if_pos j,utB_of h.u',hm (by omega) (by omega) (by omega),hn (by omega) (by omega),ht (by omega)];rfl
 rw[if_neg j];by_cases k:p.state=1
 ·rw[if_pos k,hm (by omega) (by omega) (by omega),hn (by omega) (by omega),ht (by omega)];rfl
 rw[if_neg k];by_cases d:p.state=2
 ·obtain⟨o,q⟩:=h.m2 d
  rw[if_pos d,hn (by omega) (by omega),ht (by omega)];unfold qbh;rw[jb o,jb hl.m,qkW fun i hi=>qpm (q i hi)];rfl
 rw[if_neg d];by_cases f:p.state=3\/p.state=4
 ·rw[if_pos f,hq,ht (by omega)]
  unfold qbh;rw[jb (il _),jb hl.m,qkW fun i hi=>qpn (h.m3 f i hi)];rfl
 rw[if_neg f];by_cases g:p.state=7
 ·rw[if_pos g,if_neg (by have:=h.wc g;omega),hm (by omega) (by omega) (by omega),hn (by omega) (by omega),hx];rfl
 rw[if_neg g,if_pos (by omega),hm (by omega) (by omega) (by omega),hn (by omega) (by omega),hx];rfl
theorem qpo {p:PS}(h:PRight p)(hl:p.lim):ParsOk p:=by
 have a:=h.st;refine⟨by omega,?_,hl.u,⟨hl.u.len.symm,by rw[hl.u.len];have:=hl.u.n;omega⟩,hl.m,hl.n,hl.b,hl.t,qnp h hl⟩;by_cases e:p.state=7
 ·have:=h.wc e;omega
 ·have:=h.wi e;omega
theorem cOk_of {c:Cel}(h:celO c):cOk c:=by
 obtain⟨b,a⟩:=h;refine⟨b,?_⟩;rcases a with a|a
 ·omega
 ·unfold qbN at a
  simp only[ii,jx,io,bne_iff_ne,jv,decide_eq_false_iff_not]at a;omega
theorem decOk_of {W H:Int}{T:TS}(h:Okt true W H T)(hp:PRight T.parser)(hl:T.parser.lim):DecOk T:=by
 obtain⟨⟨hW,hH,⟨j,k⟩,⟨f,g⟩,cu,sa,aw,tb,bk,rp⟩,hg,ho,hb,cs,cl,ss,sl,ay,al,ti⟩:=h;subst j k;have i:∀{G:Gr},okD G->G.w=T.grid.w-> ∀l∈G.lines,(l.length:Int)=T.grid.w/\qb3 l=true/\ ∀c∈l,cOk c:=fun hG e l a=>by
  have b:=hG.wid l a;have d:=hG.ok l a;exact⟨by rw[b];omega,d.2,fun c hc=>cOk_of (d.1 c hc)⟩
 refine⟨hW,hH,⟨f,g⟩,tb,⟨cu.1,cu.2,cl rfl,cs⟩,⟨sa.1,sa.2,sl,ss⟩,⟨aw.1,aw.2,al,ay⟩,⟨hg.len,i hg rfl⟩,⟨by rw[ho.len,g],i ho f⟩,⟨bk,fun l a=>?_⟩,ti,rp,qpo hp hl⟩;obtain⟨b,d,m⟩:=hb l a;exact⟨List.length_pos_iff.2 d,m,b.2,fun c hc=>cOk_of (b.1 c hc)⟩
theorem qp {n:Nat}(h:n<2^64):qaw (qw n):=qjN 9 n (ic h (by decide))
theorem qdU {x:ByteArray}(h:x.size<2^64):qaw (qbr x):=qj (qp h) (qgE x)
theorem qdC {α:Type}{f:α->List Int}:∀{l:List α},(∀x∈l,qaw (f x))->qaw (l.flatMap f)
 |[],_=>fun x hx=>by cases hx
 |a::l,h=>by rw[jj];exact qj (h a (jc ..)) (qdC fun x hx=>h x (j4 _ hx))
theorem qpp {n:Nat}{c:Cel}(hn:n<2^64)(h:cOk c):qaw (qdx n c):=by
 obtain⟨a,b,d⟩:=h;have:=qeT a;exact qj (qp hn) (qj (qp (by omega)) (qp (by omega)))
theorem qeY:∀(f:Nat) (l:List Cel),l.length<=f->f<2^60->(∀c∈l,cOk c)->qaw (qa5 l)
 |_,[],_,_,_=>fun x hx=>by cases hx
 |0,c::l,hf,_,_=>by simp at hf
 |f+1,c::l,hf,hb,hc=>by
  obtain⟨n,l',e,hl'⟩:=qeX c l
  have hlen:(c::l).length=(n+1)+l'.length:=by rw[e,hZ,ir]
  rw[e,qdy hl' n]
  exact qj (qpp (by omega) (hc c (jc ..))) (qeY f l' (by omega) (by omega) fun d hd=>hc d (by rw[e];exact k8 _ hd))
theorem qiF {W H:Int}{c:Cur}(hc:CurOk W H c)(hW:W<=60)(hH:H<=60):qaw (qea c):=by
 obtain⟨b,d,e,a⟩:=hc;have:=qeT a;have:=qby (fun i=>[c.late].getD i false) 1;exact qj (qp (by omega)) (qj (qp (by omega)) (qj (qp (by unfold qab;cases c.late<;>decide)) (qp (by omega))))
theorem qpq {p:PS}(h:ParsOk p):qaw (qcm p):=by
 obtain⟨b,c,d,e,f,g,a,i,j⟩:=h;have:=qbs p.utf.pend;refine qj (qp (by omega)) (qj (qp (by omega)) (qj (qdU (by omega)) (qj (qdU (by omega)) (qj (qp (by omega)) (qj (qdC fun x hx=>?_) (qdU (by omega)))))));have:=a x hx;exact qp (by omega)
theorem qcC {T:TS}(h:DecOk T):qaw (qZ T):=by
 obtain⟨dw,dh,⟨d,e⟩,dt,dc,ds,da,dg,c,dk,f,dr,dp⟩:=h;have g:qab (qbD T)<2^8:=qby _ 8;have i:=qby T.tabs 60;have j:(2:Nat)^60<2^64:=by decide
 refine qj (qp (by omega)) (qj (qp (by omega)) (qj (qp (by omega)) (qj (qp (by omega)) (qj (qp (by omega)) (qj (qp (by omega)) (qj (qiF dc dw.2 dh.2) (qj (qiF ds dw.2 dh.2) (qj (qiF da dw.2 dh.2)
  (qj (qdC fun l hl=>?_) (qj (qdC fun l hl=>?_) (qj (qp (by have:=dk.1;omega)) (qj (qdC fun l hl=>?_) (qj (qdU (by omega)) (qj (qdU (by omega)) (qpq dp)))))))))))))))
 ·obtain⟨b,_,a⟩:=dg.2 l hl
  exact qeY 1000 l (by omega) (by omega) a
 ·obtain⟨b,_,a⟩:=c.2 l hl
  exact qeY 1000 l (by omega) (by omega) a
 ·obtain⟨k,b,_,a⟩:=dk.2 l hl
  exact qj (qp (by omega)) (qeY 1000 l (by omega) (by omega) a)
theorem qm2:∀(f n:Nat),(qh7 f n).length<=f+1
 |0,n=>by simp[qh7]
 |f+1,n=>by
  rw[qh7]
  split
  ·simp
  ·have:=qm2 f (n/128)
   rw[iy];omega
theorem qG (n:Nat):(qw n).length<=10:=qm2 9 n
theorem qfs (x:ByteArray):(qbr x).length<=10+x.size:=by
 unfold qbr;rw[hZ,qeS];have:=qG x.size;omega
theorem qg8 {α:Type}{f:α->List Int}{c:Nat}:∀{l:List α},(∀x∈l,(f x).length<=c)->(l.flatMap f).length<=c*l.length
 |[],_=>by simp
 |a::l,h=>by
  rw[jj,hZ,iy,Nat.mul_succ]
  have h1:=h a (jc ..)
  have h2:=qg8 (f:=f) (c:=c) fun x hx=>h x (j4 a hx)
  omega
theorem len_cell (n:Nat)(c:Cel):(qdx n c).length<=30:=by
 unfold qdx;rw[hZ,hZ];have a:=qG n;have b:=qG c.rune.toNat;have d:=qG (qbE c.sty);omega
theorem qiG:∀(f:Nat) (l:List Cel),l.length<=f->(qa5 l).length<=30*l.length
 |_,[],_=>by simp[qa5,qe8]
 |0,c::l,hf=>by simp at hf
 |f+1,c::l,hf=>by
  obtain⟨n,l',e,hl'⟩:=qeX c l
  have hlen:(c::l).length=(n+1)+l'.length:=by rw[e,hZ,ir]
  rw[e,qdy hl' n,hZ,<-e,hlen]
  have a:=len_cell (n+1) c
  have b:=qiG f l' (by omega)
  omega
theorem qkX (c:Cur):(qea c).length<=40:=by
 unfold qea;simp only[hZ];have a:=qG c.x.toNat;have b:=qG c.y.toNat;have d:=qG (qab [c.late]);have e:=qG (qbE c.sty);omega
theorem qk0 {W:Int}{L:List (List Cel)}(hW:W<=60)(h:∀l∈L,(l.length:Int)=W/\qb3 l=true/\ ∀c∈l,cOk c):(L.flatMap qa5).length<=1800*L.length:=qg8 fun l hl=>by
 have h1:=(h l hl).1
 have h2:=qiG l.length l (iG _)
 omega
theorem len_pars {p:PS}(h:ParsOk p):(qcm p).length<=1000:=by
 obtain⟨c,d,i,f,j,k,g,l,m⟩:=h;have a:=qfs (qf p.utf.pend);have b:(p.params.flatMap fun n=>qw n.toNat).length<=10*p.params.length:=qg8 fun n _=>qG n.toNat;rw[qbs]at a;have o:=f.2;have e:=j1 (qG p.state.toNat) (j1 (qG p.within.toNat) (j1 a (j1 (qfs p.marks) (j1 (qG p.params.length) (j1 b (qfs p.text))))));clear a b;unfold qcm;rw[hZ,hZ,hZ,hZ,hZ,hZ];refine ip e ?_;clear e c d g;omega
theorem qc1 {T:TS}(h:DecOk T):(qZ T).length<=300000:=by
 obtain⟨dw,dh,⟨d,f⟩,dt,dc,ds,da,dg,a,dk,c,dr,dp⟩:=h;have b:(qbS T.back).length<=1810*T.back.length:=by
  unfold qbS;refine qg8 fun l hl=>?_;have g:=(dk.2 l hl).2.1;rw[hZ];refine ip (j1 (qG l.length) (qiG l.length l (iG _))) ?_;omega
 have e:=j1 (qG T.grid.w.toNat) (j1 (qG T.grid.h.toNat) (j1 (qG T.top.toNat) (j1 (qG T.bot.toNat) (j1 (qG (qab (qbD T))) (j1 (qG (qai T.tabs 60)) (j1 (qkX T.cursor) (j1 (qkX T.saved) (j1 (qkX T.away)
  (j1 (qk0 dw.2 dg.2) (j1 (qk0 dw.2 a.2) (j1 (qG T.back.length) (j1 b (j1 (qfs T.title) (j1 (qfs T.reply) (len_pars dp)))))))))))))))
 clear b;have i:T.grid.lines.length<=60:=by have:=dg.1;omega
 have j:T.other.lines.length<=60:=by have:=a.1;omega
 have k:T.back.length<=20:=dk.1;have m:T.title.size<=40:=c;have n:T.reply.size<=400:=dr;unfold qZ;rw[hZ,hZ,hZ,hZ,hZ,hZ,hZ,hZ,hZ,hZ,hZ,hZ,hZ,hZ,hZ];refine ip e ?_;clear e;omega
theorem qpr (f:Nat->Bool):qhd (qfP (qai f 60) 60)=qhd f:=by
 unfold qhd;refine ju fun i hi=>?_;have h:=jz.1 hi;unfold qfP;rw[if_pos h,qeb f 60 i h]
theorem qps (T:TS)(g o:Nat)(bk ps:Value):(qpl T).vals g o bk ps=T.vals g o bk ps:=by
 unfold TS.vals;show _++qhd (qfP (qai T.tabs 60) 60)++_=_;rw[qpr];rfl
theorem TermAt.back {w:World}{t:Nat}{T:TS}{F:Nat->Prop}(h:TermAt w t (qpl T) F):TermAt w t T F:=by
 obtain⟨g,o,ba,bn,bc,pa,pn,pc,a,c,FB,FP,hI⟩:=h;obtain⟨b,d,e,bk,f,ps,pz,bz,i,j,tB,tP,k,l,m,n,p,q,lt,hi⟩:=hI;rw[qps]at b;exact⟨g,o,ba,bn,bc,pa,pn,pc,a,c,FB,FP,b,d,e,bk,f,ps,pz,bz,i,j,tB,tP,k,l,m,n,p,q,lt,hi⟩
theorem qk1 {T:TS}(h:DecOk T):qlZ (some (qZ T))=some (qpl T):=by
 have:=decT_put h [];rwa[iI,if_pos rfl]at this
def oneF (P:Nat->Prop):Nat->Nat->Prop
 |0=>P
 |_+1=>fun _=>False
theorem Sys.one {w w':World}{t:Nat}{T:TS}(hT:LT w)(h7:gTop<=w.heap.size)(hc:Ch (fun _=>False) w w')(hA:TermAt w' t T (fun b=>w.heap.size<=b/\b<w'.heap.size))(hf:Fine T):Sys w w' [] [(t,T)]:=by
 refine⟨hc,qaN hc hT (fun _ h=>h.elim),h7,fun i x e=>by simp at e,fun i x e=>by simp at e,fun i j x y e=>by simp at e,oneF fun b=>w.heap.size<=b/\b<w'.heap.size,fun i x e=>?_,fun i j a b hb c=>?_,fun i b hb=>?_,fun i j x e=>by simp at e⟩
 ·cases i with
  |zero=>obtain rfl:=(ia e).symm;exact⟨hA,hf⟩
  |succ i=>simp at e
 ·cases i with
  |zero=>cases j with
   |zero=>exact a rfl
   |succ j=>exact c
  |succ i=>exact hb
 ·cases i with
  |zero=>exact hb
  |succ i=>exact hb.elim
theorem Sys.join {w0 w1 w2:World}{bs:List (Nat×List Value×TypeId)}{ts ts':List (Nat×TS)}(h:Sys w0 w1 bs ts)(h':Sys w1 w2 [] ts'):Sys w0 w2 bs (ts++ts'):=by
 obtain⟨F,f,g,d,k⟩:=h.tm;obtain⟨F',l,m,c,o⟩:=h'.tm;have hs:=h.same h'.ch;have hz:=h'.ch.size;have p:=h.ch.size;refine⟨hs.ch,h'.lt,h.top,hs.blk,hs.lo,hs.df,fun i=>if i<ts.length then F i else F' (i-ts.length),fun i x e=>?_,fun i j n b hb a=>?_,fun i b hb=>?_,fun i j x e hb=>?_⟩
 ·rcases iN i ts.length with hi|hi
  ·rw[iw hi]at e
   dsimp only;rw[if_pos hi];exact⟨(f i x e).1.ch h'.ch (fun _ _ h=>h),(f i x e).2⟩
  ·rw[iF hi]at e
   dsimp only;rw[if_neg (by omega)];exact l _ x e
 ·dsimp only at hb a
  by_cases hi:i<ts.length
  ·rw[if_pos hi]at hb
   have q:=(d i b hb).2;by_cases hj:j<ts.length
   ·rw[if_pos hj]at a;exact g i j n b hb a
   ·rw[if_neg hj]at a;have:=(c _ b a).1;omega
  ·rw[if_neg hi]at hb
   by_cases hj:j<ts.length
   ·rw[if_pos hj]at a;have:=(c _ b hb).1;have:=(d j b a).2;omega
   ·rw[if_neg hj]at a;exact m _ _ (by omega) b hb a
 ·dsimp only at hb
  by_cases hi:i<ts.length
  ·rw[if_pos hi]at hb;have:=d i b hb;omega
  ·rw[if_neg hi]at hb;have:=c _ b hb;omega
 ·dsimp only at hb
  by_cases hj:j<ts.length
  ·rw[if_pos hj]at hb;exact k i j x e hb
  ·rw[if_neg hj]at hb;have:=(c _ _ hb).1;have:=(h.blk i x e).lt;omega
structure OkS (T:TS):Prop where
 ok:∃W H,Okt true W H T
 pr:PRight T.parser
 fine:Fine T
theorem OkS.start (p1 p2:Int):OkS (startT zeroT p1 p2):=⟨⟨_,_,qlT zeroT p1 p2 (by decide)⟩,qeV (.inl rfl),qhF p1 p2⟩
theorem OkS.doN {T:TS}(h:OkS T)(l:List Stp):∀k,OkS (doN T l k)
 |0=>h
 |k+1=>by
  obtain⟨⟨W,H,h1⟩,h2,h3⟩:=OkS.doN h l k
  exact⟨ok_do h1 h3.2 _,pr_do h2 h3.2 _,fine_do h3 _⟩
theorem OkS.dec {T:TS}(h:OkS T):DecOk T:=by
 obtain⟨⟨W,H,a⟩,b,c⟩:=h;exact decOk_of a b c.2
def crc1 (c:Int):Int:=qe .xor .u32 (Int.fdiv c (2^min (1:Int).toNat (IntKind.bits .u32))) (IntKind.wrap .u32 (3988292384*(qe .and .u32 c 1)))
def qkY (c:Int):Nat->Int
 |0=>c
 |k+1=>crc1 (qkY c k)
def qhg (l:List Int):Nat->Int
 |0=>4294967295
 |k+1=>qkY (qe .xor .u32 (qhg l k) (l.getD k 0)) 8
def qcd (l:List Int):Int:=qe .xor .u32 4294967295 (qhg l l.length)
theorem qdD (op:BinOp)(a b:Int):0<=qe op .u32 a b/\qe op .u32 a b<=4294967295:=by
 have c:∀n:Int,0<=IntKind.wrap .u32 n/\IntKind.wrap .u32 n<=4294967295:=fun n=>by
  simp only[IntKind.wrap,IntKind.bits,IntKind.signed];constructor
  ·simp;omega
  ·simp;omega
 unfold qe;cases op<;>exact c _
theorem qkZ (l:List Int)(k:Nat):0<=qhg l k/\qhg l k<=4294967295:=by
 cases k with
 |zero=>exact⟨by show(0:Int)<=4294967295;decide,by show(4294967295:Int)<=4294967295;decide⟩
 |succ k=>
  show 0<=crc1 (qkY (qe .xor .u32 (qhg l k) (l.getD k 0)) 7)/\crc1 (qkY (qe .xor .u32 (qhg l k) (l.getD k 0)) 7)<=4294967295;exact qdD _ _ _
theorem qpt (l:List Int):0<=qcd l/\qcd l<=4294967295:=qdD _ _ _
abbrev byA (s:Int)(k:Int):Int:=IntKind.wrap .u8 (Int.fdiv s (2^min k.toNat (IntKind.bits .u32)))
def sum4 (s:Int):List Int:=[IntKind.wrap .u8 s,byA s 8,byA s 16,byA s 24]
theorem qg9 (n:Int):0<=IntKind.wrap .u8 n/\IntKind.wrap .u8 n<=255:=by
 simp only[IntKind.wrap,IntKind.bits,IntKind.signed];constructor
 ·simp;omega
 ·simp;omega
theorem qpu (s:Int):qaw (sum4 s):=fun x hx=>by
 unfold sum4 at hx
 simp only[j8,jf,or_false]at hx
 rcases hx with rfl|rfl|rfl|rfl<;>exact qg9 _
def qU (b:List Int):List Int:=qw b.length++b
def qac (b:List Int):List Int:=qU b++sum4 (qcd (qU b))
theorem qbU (b:List Int):(qac b).length=(qw b.length).length+b.length+4:=by
 unfold qac qU;rw[hZ,hZ];rfl
theorem qbG {b:List Int}(h:qaw b)(hl:b.length<2^64):qaw (qac b):=qj (qj (qp hl) h) (qpu _)
def qaX (l:List Int):List Int×Nat:=
 if(qa4 l).2=0\/l.length<(qa4 l).1+(qa4 l).2+4 then([],0)
 else if qac ((l.drop (qa4 l).2).take (qa4 l).1)=l.take ((qa4 l).2+(qa4 l).1+4)then((l.drop (qa4 l).2).take (qa4 l).1,(qa4 l).2+(qa4 l).1+4)else([],0)
theorem qeZ (n:Nat):0<(qw n).length:=List.length_pos_iff.2 (qp2 9 n)
theorem qft {x:List Int}(r:List Int)(h:x.length<2^64):qaX (qac x++r)=(x,(qac x).length):=by
 have e:qac x++r=qw x.length++(x++(sum4 (qcd (qU x))++r)):=by unfold qac qU;simp only[ie]
 have ht:qa4 (qac x++r)=(x.length,(qw x.length).length):=by rw[e];exact qjO _ h
 have hp:=qeZ x.length;have hl:=qbU x;have hd:((qac x++r).drop (qw x.length).length).take x.length=x:=by rw[e,List.drop_left,jU]
 unfold qaX;rw[ht];dsimp only;rw[if_neg (by rw[hZ];omega),hd,List.take_left' (by omega),if_pos rfl];exact Prod.ext rfl (by dsimp only;omega)
theorem ql0 {l:List Int}:(qaX l).2<=l.length:=by
 unfold qaX;split
 ·exact il _
 ·rename_i h
  split
  ·dsimp only;omega
  ·exact il _
theorem qm3 {l:List Int}:(qaX l).1.length<=l.length:=by
 unfold qaX;split
 ·exact il _
 ·rename_i h
  split
  ·dsimp only;rw[im,iE];omega
  ·exact il _
theorem qk2 {l:List Int}(h:qaw l):qaw (qaX l).1:=by
 unfold qaX;split
 ·exact fun x hx=>by cases hx
 ·split
  ·exact fun x hx=>h x (iW (iS hx))
  ·exact fun x hx=>by cases hx
structure Ev where
 time:Int
 kind:Int
 data:ByteArray
 w:Int
 h:Int
def ev0:Ev:=⟨0,0,ByteArray.empty,0,0⟩
def Ev.vals (e:Ev):List Value:=[.int .i64 e.time,.int .i64 e.kind,.string e.data,.int .i64 e.w,.int .i64 e.h]
def evB (e:Ev):Bool:=
 if e.time<0\/4611686018427387904<=e.time\/400<(e.data.size:Int)then false
 else if e.kind=2 then decide (e.data.size=0/\1<=e.w/\1<=e.h/\e.w<=1000/\e.h<=1000)
 else if e.kind=0\/e.kind=1\/e.kind=3 then decide (e.w=0/\e.h=0)else false
def evI (fr:Int)(e:Ev):List Int:=qw e.kind.toNat++qw (e.time-fr).toNat++(if e.kind=2 then qw e.w.toNat++qw e.h.toNat else qbr e.data)
def evR (fr:Int)(s:RS):Option Ev×RS:=
 let q1:=qO 4 s
 let q2:=qO 4611686018427387904 q1.2
 if q1.1=2 then
  let q3:=qO 1001 q2.2
  let q4:=qO 1001 q3.2
  (if q4.2.isSome=true/\evB ⟨fr+q2.1,q1.1,E0,q3.1,q4.1⟩=true then some ⟨fr+q2.1,q1.1,E0,q3.1,q4.1⟩else none,q4.2)
 else
  let q3:=qb8 400 q2.2
  (if q3.2.isSome=true/\evB ⟨fr+q2.1,q1.1,q3.1,0,0⟩=true then some ⟨fr+q2.1,q1.1,q3.1,0,0⟩else none,q3.2)
theorem qfR {e:Ev}(h:evB e=true):((0<=e.time/\e.time<4611686018427387904)/\e.data.size<=400)/\((e.kind=2/\e.data.size=0/\(1<=e.w/\e.w<=1000)/\1<=e.h/\e.h<=1000)\/((e.kind=0\/e.kind=1\/e.kind=3)/\e.w=0/\e.h=0)):=by
 unfold evB at h;split at h
 ·cases h
 ·rename_i c
  split at h
  ·rename_i a
   have:=iQ h;exact⟨by omega,.inl ⟨a,by omega⟩⟩
  ·split at h
   ·rename_i b
    have:=iQ h;exact⟨by omega,.inr ⟨b,this⟩⟩
   ·cases h
theorem bytes0 {s:ByteArray}(h:s.size=0):s=E0:=by
 apply ByteArray.ext;apply Array.ext
 ·exact h
 ·intro i hi;have:s.data.size=0:=h;omega
theorem evR_put {fr:Int}{e:Ev}(r:List Int)(h:evB e=true)(h0:0<=fr/\fr<=e.time):evR fr (some (evI fr e++r))=(some e,some r):=by
 obtain⟨⟨g,i⟩,a⟩:=qfR h;obtain⟨t,k,d,w,hh⟩:=e;dsimp only at*;have hk:0<=k/\k<=3:=by rcases a with a|a<;>omega
 have c:qO 4 (some (evI fr ⟨t,k,d,w,hh⟩++r))=(k,some (qw (t-fr).toNat++((if k=2 then qw w.toNat++qw hh.toNat else qbr d)++r))):=by
  unfold evI;dsimp only;rw[ie,ie,qaa _ (by omega) (by omega),j7 hk.1]
 have f:qO 4611686018427387904 (some (qw (t-fr).toNat++((if k=2 then qw w.toNat++qw hh.toNat else qbr d)++r)))=(t-fr,some ((if k=2 then qw w.toNat++qw hh.toNat else qbr d)++r)):=by
  rw[qaa _ (by omega) (by omega),j7 (by omega)]
 unfold evR;rw[c];dsimp only;rw[f];dsimp only;rw[show fr+(t-fr)=t by omega];rcases a with⟨rfl,hd,hw,j⟩|⟨l,rfl,rfl⟩
 ·rw[if_pos rfl,if_pos rfl,ie,qaa _ (by omega) (by omega),j7 (by omega)]
  dsimp only;rw[qaa _ (by omega) (by omega),j7 (by omega),<-bytes0 hd];dsimp only;rw[if_pos ⟨rfl,h⟩]
 ·have b:¬k=2:=by omega
  rw[if_neg b,if_neg b,qcX r (by decide) (by omega),qdB];dsimp only;rw[if_pos ⟨rfl,h⟩]
theorem qdV {fr:Int}{e:Ev}(h:evB e=true)(h0:0<=fr):qaw (evI fr e):=by
 obtain⟨⟨a,b⟩,c⟩:=qfR h;unfold evI;refine qj (qj (qp (by omega)) (qp (by omega))) ?_;split
 ·exact qj (qp (by omega)) (qp (by omega))
 ·exact qdU (by omega)
theorem qdE {fr:Int}{e:Ev}(h:evB e=true):(evI fr e).length<=450:=by
 obtain⟨⟨a,b⟩,c⟩:=qfR h;have d:=qG e.kind.toNat;have f:=qG (e.time-fr).toNat;have g:=qG e.w.toNat;have i:=qG e.h.toNat;have j:=qfs e.data;unfold evI;rw[hZ,hZ];split
 ·rw[hZ];omega
 ·omega
abbrev tU8:TypeId:=5
abbrev tRdr:TypeId:=175
abbrev u8s (l:List Int):List Value:=l.map (Value.int .u8)
abbrev u64s (l:List Int):List Value:=l.map (Value.int .u64)
def qaf (ns:List Int):List Int:=ns.flatMap fun x=>qw x.toNat
theorem ql1 {w:World}{b o:Nat}{l:List Int}(h:Rd w (some ⟨b,o,none⟩) (u8s l)){k:Nat}(hk:k<l.length):w.cell? ⟨b,o+(k:Int).toNat*1,none⟩=some (.int .u8 (l.getD k 0)):=by
 rw[ik,iL];refine qcq h k _ ?_;rw[iK,ig hk];simp[List.getD,ig hk]
theorem u64_cell {w:World}{b o:Nat}{l:List Int}(h:Rd w (some ⟨b,o,none⟩) (u64s l)){k:Nat}(hk:k<l.length):w.cell? ⟨b,o+(k:Int).toNat*1,none⟩=some (.int .u64 (l.getD k 0)):=by
 rw[ik,iL];refine qcq h k _ ?_;rw[iK,ig hk];simp[List.getD,ig hk]
theorem drop_at {l:List Int}{k:Nat}(hk:k<l.length):l.drop k=l.getD k 0::l.drop (k+1):=by
 rw[jX hk];simp[List.getD,ig hk]
theorem qpv {l:List Int}{k:Nat}(hk:k<l.length):l.take (k+1)=l.take k++[l.getD k 0]:=by
 rw[j2 hk];simp[List.getD,ig hk]
theorem qd7 {l:List Int}{k:Nat}(hk:k<l.length):l.getD k 0∈l:=by
 simp[List.getD,ig hk]
theorem qnq (l:List Int)(x:Int):qaf (l++[x])=qaf l++qw x.toNat:=by simp[qaf]
structure RdrIn (w:World)(rv D:Nat)(a:Option Addr)(n cap:Nat)(ys:List Int)(bad:Bool):Prop where
 blk:Blk w rv [.slice a n cap,.bool bad] tRdr
 rd:Rd w a (u8s ys)
 len:ys.length=n
 le:n<=cap
 z:(n=0/\cap=0)\/ ∃o,a=some ⟨D,o,none⟩
 byt:qaw ys
 ne:¬rv=D
 big:n<=100000000
 dl:D<w.heap.size
def rsOf (bad:Bool)(ys:List Int):RS:=if bad=true then none else some ys
def RdrAt (w:World)(rv D:Nat)(s:RS):Prop:= ∃a n cap ys bad,RdrIn w rv D a n cap ys bad/\s=rsOf bad ys
section
variable {w w':World}{rv D:Nat}{a:Option Addr}{n cap:Nat}{ys:List Int}{bad:Bool}{s:RS}{B:Nat->Prop}
theorem RdrIn.rdch (h:RdrIn w rv D a n cap ys bad)(hc:Ch B w w')(h2:¬B D):Rd w' a (u8s ys):=by
 rcases h.z with⟨b,_⟩|⟨o,rfl⟩
 ·obtain rfl:=iv (h.len.trans b)
  exact Rd.nil _ _
 ·exact h.rd.ch hc fun ad e=>by cases e;exact h2
theorem RdrIn.some (h:RdrIn w rv D a n cap ys bad)(hn:n≠0):∃o,a=Option.some ⟨D,o,none⟩:=by
 rcases h.z with⟨h,_⟩|h
 ·exact absurd h hn
 ·exact h
theorem RdrIn.ch (h:RdrIn w rv D a n cap ys bad)(hc:Ch B w w')(h1:¬B rv)(h2:¬B D):RdrIn w' rv D a n cap ys bad:=
 {h with
  blk:=h.blk.ch hc h1
  rd:=h.rdch hc h2
  dl:=ic h.dl hc.size}
def RdrX (w:World)(rv D:Nat)(s:RS):Prop:= ∃a n cap ys bad,RdrIn w rv D a n cap ys bad/\s=rsOf bad ys/\(bad=true\/ ∃o,a=Option.some ⟨D,o,none⟩)
theorem RdrX.at (h:RdrX w rv D s):RdrAt w rv D s:=by
 obtain⟨a,n,cap,ys,bad,h,e,_⟩:=h;exact⟨a,n,cap,ys,bad,h,e⟩
theorem RdrAt.ch (h:RdrAt w rv D s)(hc:Ch B w w')(h1:¬B rv)(h2:¬B D):RdrAt w' rv D s:=by
 obtain⟨a,n,cap,ys,bad,h,e⟩:=h;exact⟨a,n,cap,ys,bad,h.ch hc h1 h2,e⟩
theorem RdrAt.lt (h:RdrAt w rv D s):rv<w.heap.size:=by
 obtain⟨a,n,cap,ys,bad,h,e⟩:=h;exact h.blk.lt
theorem RdrAt.dlt (h:RdrAt w rv D s):D<w.heap.size:=by
 obtain⟨a,n,cap,ys,bad,h,e⟩:=h;exact h.dl
theorem RdrAt.rs (h:RdrAt w rv D s):rsB s:=by
 obtain⟨a,n,cap,ys,bad,h,rfl⟩:=h;intro zs e;unfold rsOf at e;split at e
 ·cases e
 ·obtain rfl:=ia e
  exact h.byt
theorem RdrIn.spoil (h:RdrIn w rv D a n cap ys bad)(hc:Ch (fun j=>j=rv) w w')(hb:Blk w' rv [.slice a n cap,.bool true] tRdr):RdrX w' rv D none:=
 ⟨a,n,cap,ys,true,{h with
  blk:=hb
  rd:=h.rdch hc fun e=>h.ne e.symm
  dl:=ic h.dl hc.size},rfl,.inl rfl⟩
theorem RdrIn.drop {o:Nat}(h:RdrIn w rv D (Option.some ⟨D,o,none⟩) n cap ys false)(k:Nat)(hk:k<=n)(hc:Ch (fun j=>j=rv) w w')(hb:Blk w' rv [.slice (Option.some ⟨D,if cap=k then o else o+k*1,none⟩) (n-k) (cap-k),.bool false] tRdr):RdrX w' rv D (Option.some (ys.drop k)):=by
 have hr:=h.rdch hc fun e=>h.ne e.symm;refine⟨_,n-k,cap-k,ys.drop k,false,⟨hb,⟨(fun e=>by cases e),fun ad e j u hj=>?_⟩,by rw[iE,h.len],by have:=h.le;omega,.inr ⟨_,rfl⟩,qdw h.byt k,h.ne,by have:=h.big;omega,ic h.dl hc.size⟩,rfl,.inr ⟨_,rfl⟩⟩;cases e;have hl:=(iq.1 hj).1;rw[hJ,iE,h.len]at hl;have b:=h.le;rw[if_neg (show¬cap=k by omega)];have:=hr.2 ⟨D,o,none⟩ rfl (k+j) u (by
  rw[u8s,iK,jg,<-iK]at hj;exact hj)
 rw[qaY]at this⊢;rw[show o+k*1+j=o+(k+j) by omega];exact this
end
theorem numR_bad {lim:Int}{ys:List Int}:qO lim (rsOf true ys)=(0,none):=rfl
theorem ql2 {lim:Int}{ys:List Int}{bad:Bool}(h:(qa4 ys).2=0\/9223372036854775807<(qa4 ys).1\/(0<lim/\lim<=((qa4 ys).1:Int))):qO lim (rsOf bad ys)=(0,none):=by
 cases bad with
 |true=>rfl
 |false=>show(if _ then _ else _)=_;rw[if_pos h]
theorem qm4 {lim:Int}{ys:List Int}(h0:¬(qa4 ys).2=0)(h1:¬9223372036854775807<(qa4 ys).1)(h2:¬(0<lim/\lim<=((qa4 ys).1:Int))):qO lim (rsOf false ys)=(((qa4 ys).1:Int),some (ys.drop (qa4 ys).2)):=by
 show(if _ then _ else _)=_;rw[if_neg (by rintro (h|h|h);exact h0 h;exact h1 h;exact h2 h)]
def NewA (A:Asn)(w w':World):Prop:=(∃F,A.P w' F/\ ∀b,F b->w.heap.size<=b/\b<w'.heap.size)/\Ch (fun _=>False) w w'
def qk3 (A A':Asn)(F:Nat->Prop)(w w':World):Prop:=A'.P w' (more F w w')/\Ch F w w'
section
variable {w0 w w':World}{F0 F:Nat->Prop}{l:List Asn}{A A':Asn}{i:Nat}
theorem Sep.addN (h:Sep w0 F0 w l)(hN:NewA A w w'):Sep w0 F0 w' (l++[A]):=by
 obtain⟨⟨G,a,b⟩,hc⟩:=hN;exact h.add a b hc
theorem Sep.finN (h:Sep w0 (fun _=>False) w l)(i:Nat)(hi:l[i]? =some A:=by rfl):NewA A w0 w:=by
 obtain⟨F,c,d,a⟩:=h.ex;exact⟨⟨F i,c i A hi,fun b hb=>⟨(a i b hb).1.elim False.elim id,(a i b hb).2⟩⟩,h.ch⟩
theorem Sep.gz (h:Sep w0 F0 w l)(hg:Gz w0 F0)(hF:∀b,F b->(F0 b\/w0.heap.size<=b)/\b<w.heap.size):Gz w F:=
 ⟨ip hg.top h.ch.size,fun b hb=>⟨hg.gt (hF b hb).1,(hF b hb).2⟩⟩
theorem gz0 (h7:gTop<=w.heap.size):Gz w (fun _=>False):=⟨h7,fun _ h=>h.elim⟩
theorem Sep.stepA {P:Program}{k:FuncId}{args:Array Value}{v:Value}(h:Sep w0 F0 w l)(hg:Gz w0 F0)(i:Nat)(hk:∀F,A.P w F->Gz w F->Calls P k args w fun e w'=>e= .returned v/\qk3 A A' F w w')(hi:l[i]? =some A:=by rfl):Calls P k args w fun e w'=>e= .returned v/\Sep w0 F0 w' (l.set i A'):=
 h.step i (fun F hA hF=>hk F hA (h.gz hg hF)) hi
theorem Sep.finS (h:Sep w0 F0 w l)(hg:Gz w0 F0)(i:Nat)(hi:l[i]? =some A':=by rfl):qk3 A A' F0 w0 w:=h.fin hg hi
theorem Sep.startA {X:Type}{L:X->List Asn}(h:(qjq L).P w F)(hg:Gz w F):∃x,Sep w F w (L x):=Sep.startP h fun b hb=>(hg.lo b hb).2
end
abbrev qk4:TypeId:=132
abbrev tOne:TypeId:=151
def nmR:ByteArray:=⟨#[114]⟩
theorem nmR_ne:(nmR.toList==ByteArray.empty.toList)=false:=by simp[nmR,ByteArray.toList,ByteArray.toList.loop,ByteArray.size]
structure Fl where
 data:List Int
 sure:Int
structure St where
 file:Option Fl
 quota:Int
 armed:Bool
 left:Int
 down:Bool
structure StX where
 m:Nat
 f:Nat
 o:Option Nat
 n:Nat
 c:Nat
def St.vals (S:St)(m:Nat):List Value:=[.map (some m),.int .i64 S.quota,.bool S.armed,.int .i64 S.left,.bool S.down]
def oneE (f:Nat):List MapEntry:=[{key:= .string nmR,val:= .pointer (some ⟨f,0,none⟩),born:=0}]
def qfJ (b:Nat)(S:St)(x:StX):List Asn:=
 match S.file with
 |none=>[qbX b (S.vals x.m) qk4,qkG x.m (.map (([]:List MapEntry).toArray) 0)]
 |some q=>[qbX b (S.vals x.m) qk4,qkG x.m (.map (oneE x.f).toArray 1),qbX x.f [.slice (x.o.map at0) x.n x.c,.int .i64 q.sure] tOne,qan tU8 1 x.o x.n x.c (u8s q.data)]
def StRd (w:World)(b:Nat)(S:St)(x:StX):Prop:=
 match S.file with
 |none=>Blk w b (S.vals x.m) qk4/\Ob w x.m (.map (([]:List MapEntry).toArray) 0)
 |some q=>Blk w b (S.vals x.m) qk4/\Ob w x.m (.map (oneE x.f).toArray 1)/\Blk w x.f [.slice (x.o.map at0) x.n x.c,.int .i64 q.sure] tOne/\Own w tU8 1 x.o x.n x.c (u8s q.data)
abbrev qbi (b:Nat)(S:St):Asn:=qjq (qfJ b S)
def usedI (S:St):Int:=match S.file with
 |none=>0
 |some q=>(q.data.length:Int)
theorem qm5 (a:Option Addr)(n cap:Nat)(us:List Int)(w:World)(hr:Rd w a (u8s us))(hl:us.length=n)(hz:n=0\/ ∃b o,a=some ⟨b,o,none⟩)(hb:qaw us)(hn:n<=1000000000):CP 86 [.slice a n cap].toArray w (RQ (.tuple #[.int .u64 ((qa4 us).1:Int),iX ((qa4 us).2:Int)]) w):=by
 refine yA Tryz.func86 rfl<|yx 2<|yx 1<|ys<|yx 3<|qa<|qV [4,7,8,9] (f':=[(4,.int .u64 0),(7,.slice a n cap),(8,iX (n:Int)),(9,iX 0)])<|qx (σ:=Nat×Int) (fun⟨k,x⟩=>[(4,.int .u64 x),(7,.slice a n cap),(8,iX (n:Int)),(9,iX (k:Int))]) (fun⟨k,x⟩ u=>k<=n/\qdj 0 0 us=qdj k x (us.drop k)/\Ch (fun _=>False) w u) (fun⟨k,x⟩=>n-k) (0,0) rfl ?_ ?_
 ·exact⟨il _,rfl,Ch.refl _ _⟩
 intro p I D J C;obtain⟨k,x⟩:=p;obtain⟨hk,hG,g⟩:=D;have f:=zu (zm w) g iZ;have E:=Rd.ch hr g iZ;refine yx 1<|ys<|yc (rL (k:Int) (n:Int)) (fun F=>?_) fun F=>?_
 ·obtain⟨pb,po,rfl⟩:=hz.resolve_left (by omega);have G:=drop_at (l:=us) (k:=k) (by omega);have K:=hb _ (qd7 (l:=us) (k:=k) (by omega));rw[G]at hG;refine yk<|ys<|qa<|ysr<|yp 5 [] (.i (k:Int) (n) (.l (o:=(po+((k:Int)).toNat*1)) (ql1 E (k:=k) (by omega)) .z))<|ye<|ys<|ysr<|yq 3<|yw [16] (rE (k:Int) 9) (fun h=>?_) fun h=>?_
  ·have L:=h;refine yq 7<|yw [20] (rL 1 (us.getD k 0)) (fun j=>?_) fun j=>?_
   ·have M:=j;refine yz 10<|yct<|yx 2<|q9 (rS (rB (rS (qB (rB (rS (yR2 [.int .u64 0,iX 0] .z ?_)))))));have hN:=qcI hb;rw[hG]at hN;rw[qdj]at hN
    first
     |(exfalso;omega)
     |(rw[if_pos (by omega)]at hN;obtain⟨c,d⟩:=iB hN;exact⟨by rw[<-c,<-d],Up.ch f⟩)
     |(rw[if_neg (by omega),if_pos (by omega),if_pos (by omega)]at hN;obtain⟨c,d⟩:=iB hN;exact⟨by rw[<-c,<-d],Up.ch f⟩)
     |(rw[if_neg (by omega),if_pos (by omega),if_neg (by omega)]at hN;obtain⟨c,d⟩:=iB hN;exact⟨by rw[<-c,<-d],Up.ch f⟩)
   have N:=j;refine yz 10<|yc (rL 9 (k:Int)) (fun m=>?_) fun m=>?_
   ·have O:=m;refine yx 2<|q9 (rS (rB (rS (qB (rB (rS (yR2 [.int .u64 0,iX 0] .z ?_)))))));have hN:=qcI hb;rw[hG]at hN;rw[qdj]at hN
    first
     |(exfalso;omega)
     |(rw[if_pos (by omega)]at hN;obtain⟨c,d⟩:=iB hN;exact⟨by rw[<-c,<-d],Up.ch f⟩)
     |(rw[if_neg (by omega),if_pos (by omega),if_pos (by omega)]at hN;obtain⟨c,d⟩:=iB hN;exact⟨by rw[<-c,<-d],Up.ch f⟩)
     |(rw[if_neg (by omega),if_pos (by omega),if_neg (by omega)]at hN;obtain⟨c,d⟩:=iB hN;exact⟨by rw[<-c,<-d],Up.ch f⟩)
   have P:=m;refine yk<|ysr<|yp 9 [] (.q6 (7*(k:Int)) (.p (q:=0<=((7*(k:Int)):Int)) (by omega) .z))<|ye<|yx 2<|yc (rL (us.getD k 0) 128) (fun r=>?_) fun r=>?_
   ·have Q:=r;refine ys<|ysr<|yq 3<|yw [36] (rE (us.getD k 0) 0) (fun s=>?_) fun s=>?_
    ·have R:=s;refine yz 6<|yc (rL 0 (k:Int)) (fun t=>?_) fun t=>?_
     ·have S:=t;refine yx 2<|q9 (rS (rB (rS (qB (rB (rS (yR2 [.int .u64 0,iX 0] .z ?_)))))));have hN:=qcI hb;rw[hG]at hN;rw[qdj]at hN
      first
       |(exfalso;omega)
       |(rw[if_pos (by omega)]at hN;obtain⟨c,d⟩:=iB hN;exact⟨by rw[<-c,<-d],Up.ch f⟩)
       |(rw[if_neg (by omega),if_pos (by omega),if_pos (by omega)]at hN;obtain⟨c,d⟩:=iB hN;exact⟨by rw[<-c,<-d],Up.ch f⟩)
       |(rw[if_neg (by omega),if_pos (by omega),if_neg (by omega)]at hN;obtain⟨c,d⟩:=iB hN;exact⟨by rw[<-c,<-d],Up.ch f⟩)
     have T:=t;refine yk<|ysr<|yp 5 [] (.q6 ((k:Int)+1) .z)<|ye<|q9 (rB (rS (qB (rB (rS (yR2 [.int .u64 (qe .or .u64 x (IntKind.wrap .u64 ((IntKind.wrap .u64 (qe .and .u8 (us.getD k 0) 127))*2^min ((7*(k:Int)):Int).toNat (IntKind.bits .u64)))),iX ((k:Int)+1)] .z ?_))))));have hN:=qcI hb;rw[hG]at hN;rw[qdj]at hN
     first
      |(exfalso;omega)
      |(rw[if_pos (by omega)]at hN;obtain⟨c,d⟩:=iB hN;exact⟨by rw[<-c,<-d],Up.ch f⟩)
      |(rw[if_neg (by omega),if_pos (by omega),if_pos (by omega)]at hN;obtain⟨c,d⟩:=iB hN;exact⟨by rw[<-c,<-d],Up.ch f⟩)
      |(rw[if_neg (by omega),if_pos (by omega),if_neg (by omega)]at hN;obtain⟨c,d⟩:=iB hN;exact⟨by rw[<-c,<-d],Up.ch f⟩)
    have U:=s;refine yz 6<|ycf<|yk<|ysr<|yp 5 [] (.q6 ((k:Int)+1) .z)<|ye<|q9 (rB (rS (qB (rB (rS (yR2 [.int .u64 (qe .or .u64 x (IntKind.wrap .u64 ((IntKind.wrap .u64 (qe .and .u8 (us.getD k 0) 127))*2^min ((7*(k:Int)):Int).toNat (IntKind.bits .u64)))),iX ((k:Int)+1)] .z ?_))))));have hN:=qcI hb;rw[hG]at hN;rw[qdj]at hN
    first
     |(exfalso;omega)
     |(rw[if_pos (by omega)]at hN;obtain⟨c,d⟩:=iB hN;exact⟨by rw[<-c,<-d],Up.ch f⟩)
     |(rw[if_neg (by omega),if_pos (by omega),if_pos (by omega)]at hN;obtain⟨c,d⟩:=iB hN;exact⟨by rw[<-c,<-d],Up.ch f⟩)
     |(rw[if_neg (by omega),if_pos (by omega),if_neg (by omega)]at hN;obtain⟨c,d⟩:=iB hN;exact⟨by rw[<-c,<-d],Up.ch f⟩)
   have V:=r;refine ql (nB (nS ?_));refine q7<|yp 2 [] (.q6 ((k:Int)+1) .z)<|yE (fun a ha=>C (k+1,orT x (us.getD k 0) k) _ ⟨by omega,by rw[hG,qdj,if_neg (by omega),if_neg (by omega)],g⟩ (by show n-(k+1)<n-k;omega) a (ha.kp [4,7,8,9]))
  have W:=h;refine yz 10<|yc (rL 9 (k:Int)) (fun v=>?_) fun v=>?_
  ·have X:=v;refine yx 2<|q9 (rS (rB (rS (qB (rB (rS (yR2 [.int .u64 0,iX 0] .z ?_)))))));have hN:=qcI hb;rw[hG]at hN;rw[qdj]at hN
   first
    |(exfalso;omega)
    |(rw[if_pos (by omega)]at hN;obtain⟨c,d⟩:=iB hN;exact⟨by rw[<-c,<-d],Up.ch f⟩)
    |(rw[if_neg (by omega),if_pos (by omega),if_pos (by omega)]at hN;obtain⟨c,d⟩:=iB hN;exact⟨by rw[<-c,<-d],Up.ch f⟩)
    |(rw[if_neg (by omega),if_pos (by omega),if_neg (by omega)]at hN;obtain⟨c,d⟩:=iB hN;exact⟨by rw[<-c,<-d],Up.ch f⟩)
  have Y:=v;refine yk<|ysr<|yp 9 [] (.q6 (7*(k:Int)) (.p (q:=0<=((7*(k:Int)):Int)) (by omega) .z))<|ye<|yx 2<|yc (rL (us.getD k 0) 128) (fun y=>?_) fun y=>?_
  ·have Z:=y;refine ys<|ysr<|yq 3<|yw [36] (rE (us.getD k 0) 0) (fun A=>?_) fun A=>?_
   ·have a0:=A;refine yz 6<|yc (rL 0 (k:Int)) (fun B=>?_) fun B=>?_
    ·have a1:=B;refine yx 2<|q9 (rS (rB (rS (qB (rB (rS (yR2 [.int .u64 0,iX 0] .z ?_)))))));have hN:=qcI hb;rw[hG]at hN;rw[qdj]at hN
     first
      |(exfalso;omega)
      |(rw[if_pos (by omega)]at hN;obtain⟨c,d⟩:=iB hN;exact⟨by rw[<-c,<-d],Up.ch f⟩)
      |(rw[if_neg (by omega),if_pos (by omega),if_pos (by omega)]at hN;obtain⟨c,d⟩:=iB hN;exact⟨by rw[<-c,<-d],Up.ch f⟩)
      |(rw[if_neg (by omega),if_pos (by omega),if_neg (by omega)]at hN;obtain⟨c,d⟩:=iB hN;exact⟨by rw[<-c,<-d],Up.ch f⟩)
    have a2:=B;refine yk<|ysr<|yp 5 [] (.q6 ((k:Int)+1) .z)<|ye<|q9 (rB (rS (qB (rB (rS (yR2 [.int .u64 (qe .or .u64 x (IntKind.wrap .u64 ((IntKind.wrap .u64 (qe .and .u8 (us.getD k 0) 127))*2^min ((7*(k:Int)):Int).toNat (IntKind.bits .u64)))),iX ((k:Int)+1)] .z ?_))))));have hN:=qcI hb;rw[hG]at hN;rw[qdj]at hN
    first
     |(exfalso;omega)
     |(rw[if_pos (by omega)]at hN;obtain⟨c,d⟩:=iB hN;exact⟨by rw[<-c,<-d],Up.ch f⟩)
     |(rw[if_neg (by omega),if_pos (by omega),if_pos (by omega)]at hN;obtain⟨c,d⟩:=iB hN;exact⟨by rw[<-c,<-d],Up.ch f⟩)
     |(rw[if_neg (by omega),if_pos (by omega),if_neg (by omega)]at hN;obtain⟨c,d⟩:=iB hN;exact⟨by rw[<-c,<-d],Up.ch f⟩)
   have a3:=A;refine yz 6<|ycf<|yk<|ysr<|yp 5 [] (.q6 ((k:Int)+1) .z)<|ye<|q9 (rB (rS (qB (rB (rS (yR2 [.int .u64 (qe .or .u64 x (IntKind.wrap .u64 ((IntKind.wrap .u64 (qe .and .u8 (us.getD k 0) 127))*2^min ((7*(k:Int)):Int).toNat (IntKind.bits .u64)))),iX ((k:Int)+1)] .z ?_))))));have hN:=qcI hb;rw[hG]at hN;rw[qdj]at hN
   first
    |(exfalso;omega)
    |(rw[if_pos (by omega)]at hN;obtain⟨c,d⟩:=iB hN;exact⟨by rw[<-c,<-d],Up.ch f⟩)
    |(rw[if_neg (by omega),if_pos (by omega),if_pos (by omega)]at hN;obtain⟨c,d⟩:=iB hN;exact⟨by rw[<-c,<-d],Up.ch f⟩)
    |(rw[if_neg (by omega),if_pos (by omega),if_neg (by omega)]at hN;obtain⟨c,d⟩:=iB hN;exact⟨by rw[<-c,<-d],Up.ch f⟩)
  have a4:=y;refine ql (nB (nS ?_));refine q7<|yp 2 [] (.q6 ((k:Int)+1) .z)<|yE (fun a ha=>C (k+1,orT x (us.getD k 0) k) _ ⟨by omega,by rw[hG,qdj,if_neg (by omega),if_neg (by omega)],g⟩ (by show n-(k+1)<n-k;omega) a (ha.kp [4,7,8,9]))
 have H:k=n:=by omega
 refine qm (eS (qd (qb (nS ?_))));refine yx 2<|q9 (yR2 [.int .u64 0,iX 0] .z ?_);have hN:=qcI hb;rw[hG]at hN;rw[H,jF (by omega),qdj]at hN;obtain⟨c,d⟩:=iB hN;exact⟨by rw[<-c,<-d],Up.ch f⟩
theorem putV_any (o:Option Nat)(n cap:Nat)(xs:List Int)(lb k:Nat)(ns:List Int)(w:World)(hO:Own w tU8 1 o n cap (u8s xs))(hr:Rd w (some ⟨lb,0,none⟩) (u64s ns))(hk:ns.length=k)(hv:∀x∈ns,0<=x/\x<=18446744073709551615)(hlb:lb<w.heap.size)(hne:∀b,o=some b-> ¬b=lb)(hz:n+10*k<=1000000000):CP 55 [.slice (o.map at0) n cap,.slice (some ⟨lb,0,none⟩) k k].toArray w fun e w'=>
 ∃o' n' cap',e= .returned (.slice (o'.map at0) n' cap')/\Own w' tU8 1 o' n' cap' (u8s (xs++qaf ns))/\n'<=n+10*k/\App w w' o o':=by
 refine yA Tryz.func55 rfl<|yx 1<|ys<|yx 3<|qa<|qV [0,7,8,9] (f':=[(0,.slice (o.map at0) n cap),(7,.slice (some ⟨lb,0,none⟩) k k),(8,iX (k:Int)),(9,iX 0)])<|qx (σ:=Nat×Option Nat×Nat×Nat) (fun⟨j,g,d,m⟩=>[(0,.slice (g.map at0) d m),(7,.slice (some ⟨lb,0,none⟩) k k),(8,iX (k:Int)),(9,iX (j:Int))]) (fun⟨j,g,d,m⟩ u=>j<=k/\Own u tU8 1 g d m (u8s (xs++qaf (ns.take j)))/\App w u o g/\d<=n+10*j) (fun⟨j,g,d,m⟩=>k-j) (0,o,n,cap) rfl ?_ ?_
 ·exact⟨il _,by simpa[qaf]using hO,App.refl _ _,iG _⟩
 intro p ad L ae M;obtain⟨j,g,d,m⟩:=p;obtain⟨hj,A,v,af⟩:=L;have N:=Ch.rd v.ch hr (fun h=>hne _ h rfl);have ag:=ic hlb v.ch.size;refine yx 1<|ys<|yc (rL (j:Int) (k:Int)) (fun B=>?_) fun B=>?_
 ·have ah:=B;have ai:=hv _ (qd7 (l:=ns) (k:=j) (by omega));refine yk<|ys<|qa<|ysr<|yp 3 [] (.i (j:Int) (k) (.l (o:=(0+((j:Int)).toNat*1)) (u64_cell N (k:=j) (by omega)) .z))<|ye<|ys<|qa<|qV [0,6,7,8,9] (f':=[(0,.slice (g.map at0) d m),(6,.int .u64 (ns.getD j 0)),(7,.slice (some ⟨lb,0,none⟩) k k),(8,iX (k:Int)),(9,iX (j:Int))])<|qx (σ:=Int×Nat×List Int×Option Nat×Nat×Nat) (fun⟨x,f,zs,r,c,s⟩=>[(0,.slice (r.map at0) c s),(6,.int .u64 x),(7,.slice (some ⟨lb,0,none⟩) k k),(8,iX (k:Int)),(9,iX (j:Int))]) (fun⟨x,f,zs,r,c,s⟩ u=>0<=x/\x.toNat<128^(f+1)/\zs++qh7 f x.toNat=(xs++qaf (ns.take j))++qw (ns.getD j 0).toNat/\Own u tU8 1 r c s (u8s zs)/\App w u o r/\c+f+1<=d+10) (fun⟨x,f,zs,r,c,s⟩=>x.toNat) (ns.getD j 0,9,xs++qaf (ns.take j),g,d,m) rfl ?_ ?_
  ·exact⟨by omega,by have O:(128:Nat)^(9+1)=1180591620717411303424:=(by decide);rw[O];omega,rfl,A,v,by omega⟩
  intro q aj P ak Q;obtain⟨x,f,zs,r,c,s⟩:=q;obtain⟨al,R,E,y,F,am⟩:=P;refine ys<|yx 2<|yc (rM 128 x) (fun C=>?_) fun C=>?_
  ·have an:=C;refine yk<|ys<|qa<|q7<|yq 4<|yo (yB [uX (qe .or .u8 (IntKind.wrap .u8 x) 128)] 5 1 fun ao G ap aq S H=>?_);have ar:=zv (b:=G) y;have T:=y.ch H iZ;have U:=F.step H iZ;refine yo (qaC 5 1 1 r c s (u8s zs) (some ⟨G,0,none⟩) 1 1 [uX (qe .or .u8 (IntKind.wrap .u8 x) 128)] (some 22) (c+1) rfl (u8s (zs++[(qe .or .u8 (IntKind.wrap .u8 x) 128)])) (by rw[u8s,u8s,iH];rfl) (by kernel_rfl) T (Rd.all S) rfl rfl (fun h=>by cases h) (by constructor<;>first|omega|(simp only[maxLen];omega)) ?_);intro au V W X Y av Z;have a0:=U.trans (App.of Y Z);refine yq 7<|yE (nB (nS ?_));refine q7<|yp 3 [] (.p (q:=0<=(7:Int)) (by omega) .z) ?_;obtain⟨f,rfl⟩:∃f',f=f'+1:=by
    cases f with
    |zero=>exfalso;have:x.toNat<128:=R;omega
    |succ f=>exact⟨f,rfl⟩
   have D:x=(x.toNat:Int):=by omega
   have t:=shr7_eq x.toNat;have I:=low7_eq x.toNat;rw[<-D]at t I;have aw:128^(f+1+1)=128^(f+1)*128:=rfl;have hq:zs++[low7 x]++qh7 f (shr7 x).toNat=(xs++qaf (ns.take j))++qw (ns.getD j 0).toNat:=by rw[<-E,qdR (by omega),t,I,ik,ie];rfl
   refine yE (fun a ha=>Q (shr7 x,f,zs++[low7 x],V,(c+1),W) _ ⟨by rw[t];omega,by rw[t];omega,hq,X,a0,by omega⟩ (by show(shr7 x).toNat<x.toNat;rw[t];omega) a (ha.kp [0,6,7,8,9]))
  have ax:=C;have D:x=(x.toNat:Int):=by omega
  have a1:IntKind.wrap .u8 x=(x.toNat:Int):=by rw[D,wrap8];congr 1;omega
  have a2:zs++[IntKind.wrap .u8 x]=(xs++qaf (ns.take j))++qw (ns.getD j 0).toNat:=by rw[<-E,qcg (by omega),a1]
  refine qm (eS (qd (qb (nS ?_))));refine q7<|yq 3<|yo (yB [uX (IntKind.wrap .u8 x)] 5 1 fun ay J az aA a3 K=>?_);have aB:=zv (b:=J) y;have a4:=y.ch K iZ;have a5:=F.step K iZ;refine yo (qaC 5 1 1 r c s (u8s zs) (some ⟨J,0,none⟩) 1 1 [uX (IntKind.wrap .u8 x)] (some 27) (c+1) rfl (u8s (zs++[(IntKind.wrap .u8 x)])) (by rw[u8s,u8s,iH];rfl) (by kernel_rfl) a4 (Rd.all a3) rfl rfl (fun h=>by cases h) (by constructor<;>first|omega|(simp only[maxLen];omega)) ?_);intro aC a6 a7 a8 a9 aD aa;have ab:=a5.trans (App.of a9 aa);refine yq 6<|yE (nB (nS ?_));refine q7<|yp 2 [] (.q6 ((j:Int)+1) .z)<|yE (fun a ha=>M (j+1,a6,(c+1),a7) _ ⟨by omega,by rw[qpv (by omega),qnq,<-ie,<-a2];exact a8,ab,by omega⟩ (by show k-(j+1)<k-j;omega) a (ha.kp [0,7,8,9]))
 have aE:=B;have ac:j=k:=by omega
 refine qm (eS (qd (qb (nS ?_))));refine yx 2<|q9 (yR1 (.slice (g.map at0) d m) ?_);exact⟨_,_,_,rfl,by rw[ac,<-hk,je]at A;exact A,by omega,v⟩
theorem bN:∀x∈([]:List Int),0<=x/\x<=18446744073709551615:=fun x h=>by cases h
theorem bC {x:Int}{l:List Int}(t:∀y∈l,0<=y/\y<=18446744073709551615)(h:0<=x:=by omega)(h':x<=18446744073709551615:=by omega):∀y∈x::l,0<=y/\y<=18446744073709551615:=fun y hy=>(j8.1 hy).elim (fun e=>e▸⟨h,h'⟩) (t y)
theorem qcJ {o:Option Nat}{n cap lb:Nat}{xs:List Int}{w:World}(k:Nat)(ns:List Int)(hO:Own w tU8 1 o n cap (u8s xs))(hr:Rd w (some ⟨lb,0,none⟩) (u64s ns))(hv:∀x∈ns,0<=x/\x<=18446744073709551615)(hlb:lb<w.heap.size)(hne:∀b,o=some b-> ¬b=lb)(hk:ns.length=k:=by rfl)(hz:n+10*k<=1000000000:=by omega):CP 55 [.slice (o.map at0) n cap,.slice (some ⟨lb,0,none⟩) k k].toArray w fun e w'=>
    ∃o' n' cap',e= .returned (.slice (o'.map at0) n' cap')/\Own w' tU8 1 o' n' cap' (u8s (xs++qaf ns))/\n'<=n+10*k/\App w w' o o':=putV_any o n cap xs lb k ns w hO hr hk hv hlb hne hz
end Go.Proofs.YtjjcnhgpccancaaGreatDoor.X
