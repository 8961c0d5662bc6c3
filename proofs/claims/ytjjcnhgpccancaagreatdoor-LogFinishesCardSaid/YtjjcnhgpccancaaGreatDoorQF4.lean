/- What the proofs of LogFinishes need, part 4: the walks of the program's functions and the plain laws about them. -/
import Derived.Test.YtjjcnhgpccancaaGreatDoorQF3
import Derived.Laws.Strings
set_option linter.unusedSimpArgs false
set_option linter.unusedVariables false
set_option maxHeartbeats 4000000
namespace Go.Proofs.YtjjcnhgpccancaaGreatDoor.X
open Go Go.RowKit Go.Proofs.YtjjcnhgpccancaaGreatDoor
theorem turn_at {w:World}{t:Nat}{W H:Int}{T:TS}{F:Nat->Prop}(hA0:TermAt w t T F)(hT:LT w)(hL:Lim W H T)(b:Bool):CP 192 [pX t,.bool b].toArray w fun e w'=>e= .returned (.tuple #[])/\TermAt w' t (qkW T b) (more F w w')/\Ch F w w':=by
 obtain⟨g,o,ba,bn,bc,pa,pn,pc,F1,F2,FB,FP,hI⟩:=hA0;have hA0:TermAt w t T F:=⟨g,o,ba,bn,bc,pa,pn,pc,F1,F2,FB,FP,hI⟩
 have s:=hI.inF.1;obtain⟨gv,aZ⟩:=hI.g1.head;have b0:Df t g:=fun e=>hI.t1 (e▸hI.g1.inF);obtain⟨⟨b1,b2⟩,⟨b3,b4⟩,b5,b6⟩:=hI.g1.ok;have ac:=hL;have b7:=ac.all;obtain⟨b8,ad⟩:=hI.g2.head;have f:Df t o:=fun e=>hI.t2 (e▸hI.g2.inF);refine yA Tryz.func192 rfl<|ys<|ysr<|yp 6 [] (.l (hI.blk.c 95) .z)<|ye<|yc (rY (b==T.alt)) (fun m=>?_) fun m=>?_
 ·refine q9 (rS (yR0 ?_));have N:=hI.cht (Ch.refl (· =t) w);have ae:=hI.pk1 hI N;refine⟨rfl,TermAt.eq' ae ?_,N⟩;exact if_pos m
 refine yk<|ysr<|yq 4<|yo (yS hI.blk fun b9 af O=>?_);have ag:=zt (Ch.refl (· =t) w) O (fun i hi (h:i=t)=>h);have ah:=ad.ch O (fun h=>f h.symm);refine ye<|ys<|yD [12,15] fun bb bd v=>?_;have ai:=zt ag v eZ;have aj:=ah.ch v id;have A:=af.ch v id;refine yd (uL 0 12) [] (.l (A.c 1) (.l (A.c 0) .z))<|yK 12 (yS A fun bf ak P=>?_);have al:=zt ai P (fun i hi (h:i=t)=>h);have am:=aj.ch P (fun h=>f h.symm);refine q8<|yd [13,14] [] .z<|yK 15 (yS ak fun bg an Q=>?_);have ao:=zt al Q (fun i hi (h:i=t)=>h);have ap:=am.ch Q (fun h=>f h.symm);refine q8<|yDe (nS ?_);refine ys<|yD [12,15] fun bh bi B=>?_;have aq:=zt ao B eZ;have ar:=ap.ch B id;have au:=an.ch B id;have C:Blk _ t (TS.vals ({T with grid:=T.other,other:=T.grid,alt:=b}:TS) o g (.slice ba bn bc) (.slice pa pn pc)) qar:=Blk.to au (by kernel_rfl);refine yd (uL 0 12) [] (.a (C.cs 18 8) (.a (C.cs 2 8) .z))<|yK 12 (yS C fun bj av R=>?_);have ax:=zt aq R (fun i hi (h:i=t)=>h);have ay:=ar.ch R (fun h=>f h.symm);refine q8<|yd [13,14] [] .z<|yK 15 (yS av fun bk S U=>?_);have D:=zt ax U (fun i hi (h:i=t)=>h);have az:=ay.ch U (fun h=>f h.symm);refine q8<|yDe (nS ?_);refine yx 1<|yc (rY b) (fun E=>?_) fun E=>?_
 ·refine ysr ?_;have V:Blk _ t (TS.vals ({T with grid:=T.other,other:=T.grid,cursor:=T.away,away:=T.cursor,alt:=b}:TS) o g (.slice ba bn bc) (.slice pa pn pc)) qar:=Blk.to S (by kernel_rfl);refine yp 7 [] (.a (V.cs 18 8) .z)<|yo (yS V fun bl X Y=>?_);have Z:=zt D Y (fun i hi (h:i=t)=>h);have aA:=az.ch Y (fun h=>f h.symm);refine ye<|ysr<|yp 8 [] (.l (X.c 0) (.l (aA.c 1) .z))<|ye<|qa ?_;have aB:Lim W H ({T with grid:=T.other,other:=T.grid,away:=T.cursor,alt:=b}:TS):={hL with aw:=⟨⟨(show(0:Int)<=T.cursor.x by omega),(show(T.cursor.x:Int)<W by omega)⟩,(show(0:Int)<=T.cursor.y by omega),(show(T.cursor.y:Int)<H by omega)⟩,g1:=⟨hL.g2.1,hL.g2.2⟩,g2:=⟨hL.g1.1,hL.g1.2⟩}
  have aC:=hI.swap (T':=({T with grid:=T.other,other:=T.grid,away:=T.cursor,alt:=b}:TS)) Z (Blk.to X (by kernel_rfl)) rfl rfl rfl rfl;have a0:=hI.cht Z;have aD:=aC.pk1 hI a0;refine qV [0,57,58] (f':=[(0,pX t),(57,iX T.other.h),(58,iX 0)])<|qw (σ:=Nat) (fun k=>[(0,pX t),(57,iX T.other.h),(58,iX (k:Int))]) (fun k u=>k<=T.other.h.toNat/\(TermAt u t (qiy ({T with grid:=T.other,other:=T.grid,away:=T.cursor,alt:=b}:TS) k) (more F w u)/\Ch F w u)) (fun k=>T.other.h.toNat-k) 0 rfl ?_ ?_
  ·exact⟨ir _,(TermAt.eq' aD rfl),a0⟩
  intro k G aE bm aF;obtain⟨hk,a1,I⟩:=aE;have aG:=qaW I hT (fun b hb=>hI.hi b hb);have J:Lim W H (qiy ({T with grid:=T.other,other:=T.grid,away:=T.cursor,alt:=b}:TS) k):=(qnh aB k)
  generalize a2:(qiy ({T with grid:=T.other,other:=T.grid,away:=T.cursor,alt:=b}:TS) k)=d at a1 J;have aH:=J;have bo:=aH.all;obtain⟨aI,bp,bq,br,bs,bt,bu,bv,bw,bx,bz,bA,j⟩:=a1;obtain⟨bB,aJ⟩:=j.g1.head;have bC:Df t aI:=fun e=>j.t1 (e▸j.g1.inF);refine yx 1<|ys<|yc (rL (k:Int) T.other.h) (fun aK=>?_) fun aK=>?_
  ·refine yk<|ys<|qa<|yx 2<|yD [13] fun aL bD n=>?_;have p:=zt (Ch.refl (· =t) G) n eZ;have aM:=qaW n aG (fun _ h=>h.elim);have K:=j.blk.ch n id;have aN:=aJ.ch n id;refine yd (uL 0 13) [] (.l (K.c 0) (.l (K.c 0) (.l (aN.c 0) .z))) ?_;have a3:=j.scalar (T':=d) p K rfl rfl rfl rfl;have L:=Ch.on I p s;have bE:=a3.pk2 p hI L;have q:=a3.mono (F':=more F w aL) (fun b hb=>hb.elim .inl (fun h2=> .inr ⟨h2.1,by have:=zzs p;omega⟩)) (hI.moreOk L.size);refine yK 13 (yQ (qbh _ _ _ ((k:Int)) (0) (d.grid.w) qdd _ aM.tb q.g1) ?_);rintro a4 ⟨aP,M⟩;obtain⟨a5,aQ⟩:=TermAt.next hA0 L (q.chF M) ⟨_,_,_,_,_,_,_,_,_,_,_,_,q.grid1 M aP (fun _ h=>h)⟩;have bF:=q.chF M;have a6:Lim W H ({d with grid:=(qb3 d.grid ((k:Int)) (0) (d.grid.w) qdd)}:TS):=J.grid (qbM _ _ _ _ _);generalize aR:({d with grid:=(qb3 d.grid ((k:Int)) (0) (d.grid.w) qdd)}:TS)=T115 at a5 a6;have aS:=a6;have bG:=aS.all;obtain⟨aT,bH,bI,bJ,bK,bL,bM,bN,bO,bP,bQ,bR,r⟩:=a5;obtain⟨bS,bT⟩:=r.g1.head;have bU:Df t aT:=fun e=>r.t1 (e▸r.g1.inF);refine q8<|yDe (nB (nS ?_));refine q7<|yp 2 [] (.q6 ((k:Int)+1) .z) ?_;have a7:=Ch.on aQ (Ch.refl (· =t) a4) s;have aU:=r.pk2 (Ch.refl (· =t) a4) hI a7;refine yE (fun a ha=>aF (k+1) _ ⟨(by omega),(TermAt.eq' aU (by subst aR;subst a2;rfl)),a7⟩ (by show T.other.h.toNat-(k+1)<T.other.h.toNat-k;omega) a (ha.kp [0,57,58]))
  have aV:k=T.other.h.toNat:=by omega
  refine qm (eS (qd (qb (qW ?_))));have a8:=Ch.on I (Ch.refl (· =t) G) s;have aW:=j.pk2 (Ch.refl (· =t) G) hI a8;subst a2;subst aV;refine⟨rfl,TermAt.eq' aW ?_,a8⟩;exact(if_neg (by rw[m];decide)).trans (if_pos E)
 refine qo (qW ?_);have aX:=hI.swap (T':=({T with grid:=T.other,other:=T.grid,cursor:=T.away,away:=T.cursor,alt:=b}:TS)) D (Blk.to S (by kernel_rfl)) rfl rfl rfl rfl;have a9:=hI.cht D;have aY:=aX.pk1 hI a9;refine⟨rfl,TermAt.eq' aY ?_,a9⟩;exact(if_neg (by rw[m];decide)).trans (if_neg (by rw[E];decide))
theorem qp1 {w:World}{t:Nat}{W H:Int}{T:TS}{F:Nat->Prop}(hA0:TermAt w t T F)(hT:LT w)(hL:Lim W H T)(n:Int)(b:Bool):CP 167 [pX t,iX n,.bool b].toArray w fun e w'=>e= .returned (.tuple #[])/\TermAt w' t (qbp T n b) (more F w w')/\Ch F w w':=by
 have h:=Sep.startT hA0;have hg:=Gz.of hA0;have hM:=hL;have i:=hM.all;refine yA Tryz.func167 rfl<|yx 1<|qa<|yx 2<|yc (rE n 6) (fun c=>?_) fun c=>?_
 ·refine ysr<|yq 4<|yo (zT 0 ({T with origin:=b}:TS) h fun u h=>?_);refine ye<|q7<|yq 1 ?_;have d:Lim W H ({T with origin:=b}:TS):={hL with}
  refine yo (yQ (h.met 0 fun F hA hF=>qcx hA (h.tb hg hT.tb) d (1) (1) (by constructor<;>omega) (by constructor<;>omega)) fun u h=>?_);refine yE (nB (qW ?_));refine h.tfin hg ?_;simp only[qbp, *,↓reduceIte,Int.reduceEq,Int.reduceLT,Int.reduceLE,sB]
 refine yx 2<|yc (rE n 7) (fun f=>?_) fun f=>?_
 ·refine ysr<|yq 4<|yo (zT 0 ({T with wrap:=b}:TS) h fun u h=>?_);refine ye<|q7<|yp 7 [] (.l (h.tc 0 4) .z)<|yw [27] (rY T.cursor.late) (fun a=>?_) fun a=>?_
  ·refine yq 12<|yo (zT 0 ({T with cursor:=(Cur.mk T.cursor.x T.cursor.y b T.cursor.sty),wrap:=b}:TS) h fun u h=>?_);refine yE (nB (qW ?_));refine h.tfin hg ?_;simp only[qbp, *,↓reduceIte,Int.reduceEq,Int.reduceLT,Int.reduceLE,sB]
  refine yq 12<|yo (zT 0 ({T with cursor:=(Cur.mk T.cursor.x T.cursor.y false T.cursor.sty),wrap:=b}:TS) h fun u h=>?_);refine yE (nB (qW ?_));refine h.tfin hg ?_;simp only[qbp, *,↓reduceIte,Int.reduceEq,Int.reduceLT,Int.reduceLE,sB]
 refine yx 2<|yc (rE n 25) (fun a=>?_) fun a=>?_
 ·refine q7<|yq 5<|yo (zT 0 ({T with hidden:=(!b)}:TS) h fun u h=>?_);refine yE (nB (qW ?_));refine h.tfin hg ?_;simp only[qbp, *,↓reduceIte,Int.reduceEq,Int.reduceLT,Int.reduceLE,sB]
 refine yx 2<|yc (rE n 1049) (fun g=>?_) fun g=>?_
 ·refine q7<|yq 2<|yo (yQ (h.met 0 fun F hA hF=>turn_at hA (h.lt hg hT) hL b) fun u h=>?_);refine yE (nB (qW ?_));refine h.tfin hg ?_;simp only[qbp, *,↓reduceIte,Int.reduceEq,Int.reduceLT,Int.reduceLE,sB]
 refine qo (nB (qW ?_));refine h.tfin hg ?_;simp only[qbp, *,↓reduceIte,Int.reduceEq,Int.reduceLT,Int.reduceLE,sB]
theorem qhL (l:List Int)(T:TS)(b:Bool){k:Nat}(h:k<l.length):(l.take (k+1)).foldl (fun T n=>qbp T n b) T=qbp ((l.take k).foldl (fun T n=>qbp T n b) T) (l.getD k 0) b:=by
 rw[j4 h,List.foldl_append];simp[List.getD,ig h]
theorem csi_at {w:World}{t:Nat}{W H:Int}{T:TS}{F:Nat->Prop}(hA0:TermAt w t T F)(hT:LT w)(hL:Lim W H T){ao:Option Nat}{an cc:Nat}{ac:Ac}(hV:IntsAt w .i64 ao an cc ac.params (fun b=> ¬F b/\b<w.heap.size))(hV8:an<=8)(hVb:∀x∈ac.params,0<=x/\x<=9999):CP 132 [pX t,.agg #[iX ac.kind,rX ac.rune,uX ac.last,.string ac.marks,.slice (ao.map at0) an cc,.string ac.text]].toArray w fun e w'=>e= .returned (.tuple #[])/\TermAt w' t (qlU T ac) (more F w w')/\Ch F w w':=by
 have h:=Sep.startT hA0;have hg:=Gz.of hA0;have hM:=hL;have Y:=hM.all;have v:ac.params.length=an:=hV.2.1;refine yA Tryz.func132 rfl<|ysr<|yo (zN [iX ac.kind,rX ac.rune,uX ac.last,.string ac.marks,.slice (ao.map at0) an cc,.string ac.text] 190 h fun u d h=>?_);refine ye<|qa<|ysr<|yp 4 [] (.l (h.c 1 3) .z)<|ye<|yc (rY ((ac.marks).toList==(ByteArray.empty).toList)) (fun g=>?_) fun g=>?_
 ·refine q7<|yp 2 [] (.a (h.cs 1 0 6) .z)<|yo (yQ (h.met 0 fun F hA hF=>plain_at hA (h.lt hg hT) hL (h.intsF hV hF) hV8 hVb) fun u h=>?_);refine yE (nB (qW ?_));refine h.tfin hg ?_;simp only[qlU, *,↓reduceIte,Int.reduceEq,Int.reduceLT,Int.reduceLE,sB]
 refine ysr<|yp 4 [] (.l (h.c 1 3) .z)<|yw [17] (rY ((ac.marks).toList==((⟨#[63]⟩:ByteArray)).toList)) (fun j=>?_) fun j=>?_
 ·refine yp 8 [] (.l (h.c 1 2) .z)<|yw [21] (rE ac.last 104) (fun m=>?_) fun m=>?_
  ·refine yz 14<|yct<|ysr<|yp 4 [] (.l (h.c 1 4) .z)<|ye<|qa ?_;rcases ao with _|ab
   ·have p:ac.params=[]:=by have:=hV.1.1 rfl;simpa using this
    have D:an=0:=by have:=hV.2.1;rw[p]at this;exact this.symm
    refine qV [0,3,28,29,30] (f':=[(0,pX t),(3,pX d),(28,.slice none an cc),(29,iX (an:Int)),(30,iX 0)])<|qw (σ:=Nat) (fun k=>[(0,pX t),(3,pX d),(28,.slice none an cc),(29,iX (an:Int)),(30,iX (k:Int))]) (fun k u=>k<=an/\Sep w F u [qay t ((ac.params.take k).foldl (fun T n=>qbp T n ((ac.last:Int)==104)) T),qbB d [iX ac.kind,rX ac.rune,uX ac.last,.string ac.marks,.slice none an cc,.string ac.text] 190]) (fun k=>an-k) 0 rfl ?_ ?_
    ·exact⟨ir _,h.cuts 2 rfl rfl⟩
    intro k u E Z a0;obtain⟨hk,h⟩:=E;have y:Lim W H ((ac.params.take k).foldl (fun T n=>qbp T n ((ac.last:Int)==104)) T):=(qdr hL _ _)
    generalize G:((ac.params.take k).foldl (fun T n=>qbp T n ((ac.last:Int)==104)) T)=T18 at h y;have I:=y;have a1:=I.all;refine yx 1<|ys<|yc (rL (k:Int) (an:Int)) (fun J=>?_) fun J=>?_
    ·exfalso;omega
    have f:k=ac.params.length:=by omega
    refine qm (eS (qd (qb (nB (qW ?_)))));subst G;subst f;refine h.tfin hg ?_;simp only[qlU,jc,g,j,m,↓reduceIte,Int.reduceEq,iv,and_true,true_and,or_true,true_or,or_false,false_or]
   have v:ac.params.length=an:=hV.2.1;refine qV [0,3,28,29,30] (f':=[(0,pX t),(3,pX d),(28,.slice (some ⟨ab,0,none⟩) an cc),(29,iX (an:Int)),(30,iX 0)])<|qw (σ:=Nat) (fun k=>[(0,pX t),(3,pX d),(28,.slice (some ⟨ab,0,none⟩) an cc),(29,iX (an:Int)),(30,iX (k:Int))]) (fun k u=>k<=an/\Sep w F u [qay t ((ac.params.take k).foldl (fun T n=>qbp T n ((ac.last:Int)==104)) T),qbB d [iX ac.kind,rX ac.rune,uX ac.last,.string ac.marks,.slice (some ⟨ab,0,none⟩) an cc,.string ac.text] 190]) (fun k=>an-k) 0 rfl ?_ ?_
   ·exact⟨ir _,h.cuts 2 rfl rfl⟩
   intro k u K a2 L;obtain⟨hk,h⟩:=K;have q:Lim W H ((ac.params.take k).foldl (fun T n=>qbp T n ((ac.last:Int)==104)) T):=(qdr hL _ _)
   generalize A:((ac.params.take k).foldl (fun T n=>qbp T n ((ac.last:Int)==104)) T)=T24 at h q;have M:=q;have a3:=M.all;refine yx 1<|ys<|yc (rL (k:Int) (an:Int)) (fun N=>?_) fun N=>?_
   ·refine yk<|ys<|qa<|ysr<|yp 3 [] (.i (k:Int) (an) (.l (o:=(0+((k:Int)).toNat*1)) (qci (h.ints hV).1 k (by omega)) .z))<|ye<|q7<|yp 5 [] (.l (h.c 1 2) .z)<|yo (yQ (h.met 0 fun F hA hF=>qp1 hA (h.lt hg hT) q ((ac.params.getD k 0)) ((ac.last:Int)==104)) fun u h=>?_);refine yE (nB (nS ?_));refine q7<|yp 2 [] (.q6 ((k:Int)+1) .z)<|yE (fun a ha=>L (k+1) _ ⟨(by omega),h.cuts 2 rfl (by subst A;exact qhL _ _ _ (by omega))⟩ (by show an-(k+1)<an-k;omega) a (ha.kp [0,3,28,29,30]))
   have f:k=ac.params.length:=by omega
   refine qm (eS (qd (qb (nB (qW ?_)))));subst A;subst f;refine h.tfin hg ?_;simp only[qlU,jc,g,j,m,↓reduceIte,Int.reduceEq,iv,and_true,true_and,or_true,true_or,or_false,false_or]
  refine yp 14 [] (.l (h.c 1 2) .z)<|ye<|yc (rE ac.last 108) (fun r=>?_) fun r=>?_
  ·refine ysr<|yp 4 [] (.l (h.c 1 4) .z)<|ye<|qa ?_;rcases ao with _|ab
   ·have p:ac.params=[]:=by have:=hV.1.1 rfl;simpa using this
    have D:an=0:=by have:=hV.2.1;rw[p]at this;exact this.symm
    refine qV [0,3,28,29,30] (f':=[(0,pX t),(3,pX d),(28,.slice none an cc),(29,iX (an:Int)),(30,iX 0)])<|qw (σ:=Nat) (fun k=>[(0,pX t),(3,pX d),(28,.slice none an cc),(29,iX (an:Int)),(30,iX (k:Int))]) (fun k u=>k<=an/\Sep w F u [qay t ((ac.params.take k).foldl (fun T n=>qbp T n ((ac.last:Int)==104)) T),qbB d [iX ac.kind,rX ac.rune,uX ac.last,.string ac.marks,.slice none an cc,.string ac.text] 190]) (fun k=>an-k) 0 rfl ?_ ?_
    ·exact⟨ir _,h.cuts 2 rfl rfl⟩
    intro k u O a4 a5;obtain⟨hk,h⟩:=O;have B:Lim W H ((ac.params.take k).foldl (fun T n=>qbp T n ((ac.last:Int)==104)) T):=(qdr hL _ _)
    generalize P:((ac.params.take k).foldl (fun T n=>qbp T n ((ac.last:Int)==104)) T)=T31 at h B;have Q:=B;have a6:=Q.all;refine yx 1<|ys<|yc (rL (k:Int) (an:Int)) (fun R=>?_) fun R=>?_
    ·exfalso;omega
    have f:k=ac.params.length:=by omega
    refine qm (eS (qd (qb (nB (qW ?_)))));subst P;subst f;refine h.tfin hg ?_;simp only[qlU,jc,g,j,m,r,↓reduceIte,Int.reduceEq,iv,and_true,true_and,or_true,true_or,or_false,false_or]
   have v:ac.params.length=an:=hV.2.1;refine qV [0,3,28,29,30] (f':=[(0,pX t),(3,pX d),(28,.slice (some ⟨ab,0,none⟩) an cc),(29,iX (an:Int)),(30,iX 0)])<|qw (σ:=Nat) (fun k=>[(0,pX t),(3,pX d),(28,.slice (some ⟨ab,0,none⟩) an cc),(29,iX (an:Int)),(30,iX (k:Int))]) (fun k u=>k<=an/\Sep w F u [qay t ((ac.params.take k).foldl (fun T n=>qbp T n ((ac.last:Int)==104)) T),qbB d [iX ac.kind,rX ac.rune,uX ac.last,.string ac.marks,.slice (some ⟨ab,0,none⟩) an cc,.string ac.text] 190]) (fun k=>an-k) 0 rfl ?_ ?_
   ·exact⟨ir _,h.cuts 2 rfl rfl⟩
   intro k u S a7 U;obtain⟨hk,h⟩:=S;have s:Lim W H ((ac.params.take k).foldl (fun T n=>qbp T n ((ac.last:Int)==104)) T):=(qdr hL _ _)
   generalize C:((ac.params.take k).foldl (fun T n=>qbp T n ((ac.last:Int)==104)) T)=T37 at h s;have V:=s;have a8:=V.all;refine yx 1<|ys<|yc (rL (k:Int) (an:Int)) (fun X=>?_) fun X=>?_
   ·refine yk<|ys<|qa<|ysr<|yp 3 [] (.i (k:Int) (an) (.l (o:=(0+((k:Int)).toNat*1)) (qci (h.ints hV).1 k (by omega)) .z))<|ye<|q7<|yp 5 [] (.l (h.c 1 2) .z)<|yo (yQ (h.met 0 fun F hA hF=>qp1 hA (h.lt hg hT) s ((ac.params.getD k 0)) ((ac.last:Int)==104)) fun u h=>?_);refine yE (nB (nS ?_));refine q7<|yp 2 [] (.q6 ((k:Int)+1) .z)<|yE (fun a ha=>U (k+1) _ ⟨(by omega),h.cuts 2 rfl (by subst C;exact qhL _ _ _ (by omega))⟩ (by show an-(k+1)<an-k;omega) a (ha.kp [0,3,28,29,30]))
   have f:k=ac.params.length:=by omega
   refine qm (eS (qd (qb (nB (qW ?_)))));subst C;subst f;refine h.tfin hg ?_;simp only[qlU,jc,g,j,m,r,↓reduceIte,Int.reduceEq,iv,and_true,true_and,or_true,true_or,or_false,false_or]
  refine qo (nB (qW ?_));refine h.tfin hg ?_;simp only[qlU, *,↓reduceIte,Int.reduceEq,Int.reduceLT,Int.reduceLE,sB]
 refine yz 14<|ycf<|qo (nB (qW ?_));refine h.tfin hg ?_;simp only[qlU, *,↓reduceIte,Int.reduceEq,Int.reduceLT,Int.reduceLE,sB]
def TS.valsG (t:TS)(v0 v1 bk ps:Value):List Value:=v0::v1::(t.vals 0 0 bk ps).drop 2
theorem valsG_eq (t:TS)(g o:Nat)(bk ps:Value):t.valsG (.pointer (some ⟨g,0,none⟩)) (.pointer (some ⟨o,0,none⟩)) bk ps=t.vals g o bk ps:=by kernel_rfl
def qfN (T:TS)(G:Gr)(b:Int)(k:Nat):TS:=
 {grid:=G,other:=G,cursor:=cur0,saved:=cur0,away:=cur0,top:=0,bot:=b,tabs:=qix k,wrap:=true,origin:=false,insert:=false,hidden:=false,draw0:=false,draw1:=false,shift:=false,alt:=false,title:=ByteArray.empty,back:=[],parser:=T.parser,reply:=T.reply}
def qlY (T:TS)(G:Gr):TS:=
 {grid:=G,other:=G,cursor:=cur0,saved:=cur0,away:=cur0,top:=0,bot:=0,tabs:=fun _=>false,wrap:=true,origin:=false,insert:=false,hidden:=false,draw0:=false,draw1:=false,shift:=false,alt:=false,title:=ByteArray.empty,back:=[],parser:=T.parser,reply:=T.reply}
theorem tabs0_0:qix 0=fun _=>false:=by
 funext i;unfold qix;exact jr (by omega)
theorem qnk (k:Nat):qix (k+1)=fun i=>if i=(8+8*(k:Int)).toNat then true else qix k i:=by
 funext i;unfold qix;by_cases h:i=(8+8*(k:Int)).toNat
 ·rw[if_pos h];exact j1 (by omega)
 ·rw[if_neg h]
  by_cases a:i % 8=0/\8<=i/\i<8+8*k
  ·rw[j1 a];exact j1 (by omega)
  ·rw[jr a];exact jr (by omega)
theorem qnl (T:TS)(p1 p2 b:Int)(k:Nat)(hr:T.reply.size<=400)(hb:b=qj p2):Lim (qj p1) (qj p2) (qfN T (qkF p1 p2) b k):=by
 subst hb;exact(qeO T p1 p2 hr).flags rfl rfl rfl rfl rfl rfl rfl rfl rfl
def PsAt (w:World)(t:Nat)(pa:Option Addr)(pn pc:Nat)(l:List Int)(FP:Nat->Prop):Prop:=
 (Rd w pa (l.map (Value.int .i64))/\l.length=pn/\(pa=none->pc=0)/\ ∀ad,pa=some ad->FP ad.block)/\(∃po:Option Nat,pa=po.map at0)/\ ∀b,FP b->b<w.heap.size/\gTop<=b/\b≠t
theorem start_in {w w1 w2:World}{t g o:Nat}{pa:Option Addr}{pn pc:Nat}{T T0:TS}{F1 F2 FP F:Nat->Prop}{G:Gr}(hP:PsAt w t pa pn pc T.parser.params FP)(ht:t<w.heap.size)(ht7:gTop<=t)(hp:T0.parser.params=T.parser.params)(hk:T0.back=[])(hg:T0.grid=G)(ho:T0.other=G)
  (c1:Ch (fun j=>j=t) w w1) (s1:∀b,F1 b->w.heap.size<=b/\b<w2.heap.size) (s2:∀b,F2 b->w2.heap.size<=b) (c12:w.heap.size<=w2.heap.size)
  (h1:GridAt w1 g G F1) (h2:GridAt w1 o G F2) (hb:Blk w1 t (T0.vals g o (.slice none 0 0) (.slice pa pn pc)) qar) (hF:F=fun b=>b=t\/FP b\/(w.heap.size<=b/\b<w1.heap.size)):
  TermIn w1 t g o none 0 0 pa pn pc T0 F F1 F2 (fun _=>False) FP:=by
 obtain⟨hP,hz,hf⟩:=hP;subst hF;exact
 {blk:=hb
  g1:=by rw[hg];exact h1
  g2:=by rw[ho];exact h2
  bk:=⟨[],⟨Rd.nil _ _,rfl,(fun x hx=>by cases hx),(fun x hx=>by cases hx),(fun ad e=>by cases e),(fun b hb=>hb.elim),fun b hb=>hb.elim⟩,hk.symm⟩
  bcap:=⟨iE _,fun _=>rfl⟩
  ps:=by rw[hp];exact⟨hP.1.ch c1 fun ad e a=>(hf _ (hP.2.2.2 ad e)).2.2 a,hP.2⟩
  pz:=hz
  bz:= .inl rfl
  t1:=fun h=>by have:=(s1 t h).1;omega
  t2:=fun h=>by have:=s2 t h;omega
  tB:=fun h=>h
  tP:=fun h=>(hf t h).2.2 rfl
  a12:=fun b x y=>by have:=s1 b x;have:=s2 b y;omega
  a1B:=fun b _ h=>h
  a2B:=fun b _ h=>h
  a1P:=fun b x y=>by have:=s1 b x;have:=hf b y;omega
  a2P:=fun b x y=>by have:=s2 b x;have:=hf b y;omega
  inF:=⟨.inl rfl,fun b h=> .inr (.inr ⟨(s1 b h).1,h1.lt b h⟩),fun b h=> .inr (.inr ⟨by have:=s2 b h;omega,h2.lt b h⟩),fun b h=>h.elim,fun b h=> .inr (.inl h)⟩
  lt:=fun b h=>h.elim (fun h=>h▸hb.lt) fun h=>h.elim (fun h=>by have:=hf b h;have:=c1.size;omega) fun h=>h.2
  hi:=fun b h=>h.elim (fun h=>h▸ht7) fun h=>h.elim (fun h=>(hf b h).2.1) fun h=>by omega}
theorem qjJ {w:World}{t:Nat}{v0 v1 bk:Value}{pa:Option Addr}{pn pc:Nat}{T:TS}{FP:Nat->Prop}(hB0:Blk w t (T.valsG v0 v1 bk (.slice pa pn pc)) qar)(hP:PsAt w t pa pn pc T.parser.params FP)(ht7:gTop<=t)(hT:LT w)(hr:T.reply.size<=400)(p1 p2:Int):CP 66 [pX t,iX p1,iX p2].toArray w fun e w'=>
 e= .returned (.tuple #[])/\TermAt w' t (startT T p1 p2) (fun b=>b=t\/FP b\/(w.heap.size<=b/\b<w'.heap.size))/\Ch (fun b=>b=t\/FP b) w w':=by
 have ht:=hB0.lt;have aC:1<=qj p1/\qj p1<=60:=by unfold qj;omega
 have aD:1<=qj p2/\qj p2<=60:=by unfold qj;omega
 refine yA Tryz.func66 rfl<|ys<|yDC [17] fun aE aF s=>?_;have v:=zt (Ch.refl (· =t) w) s eZ;have x:=hB0.ch s id;have J:=qaW s hT (fun _ h=>h.elim);refine ydC [0,1,2,4,5,7,8,9,10,11,12,13,14] [] (fun u hu=>(.a (qap hu (x.cs 98 9) id) (.l (qg hu (x.c 107) id) .z)))<|yH 3 (yC (qoC p1 p2 _ J.tb (by have:=ht;have:=zzs v;omega)) ?_);rintro _ K ⟨m,y,rfl,L,a1,o⟩;refine⟨_,rfl,?_⟩;have M:∀b,y b->w.heap.size<=b:=fun b hb=>iq (zzs v) (a1 b hb);have p:=zt v o eZ;have a2:=x.ch o id;have a3:=qaW o J (fun _ h=>h.elim);refine qaN o ?_;have a4:=L.lt;have a5:=zzs p;refine yH 6 (yC (qoC p1 p2 _ a3.tb (by have:=ht;have:=zzs p;omega)) ?_);rintro _ aG ⟨A,N,rfl,a6,O,q⟩;refine⟨_,rfl,?_⟩;have a7:∀b,N b->w.heap.size<=b:=fun b hb=>iq (zzs p) (O b hb);have a8:=zt p q eZ;have a9:=a2.ch q id;have aa:=L.ch q iZ;refine qaN q<|ydC [15,16] [] (fun u hu=> .z)<|yK 17 (qaL 0 [pX m,pX A,iX 0,iX 0,xF,xF,xF,xF,iX 0,iX 0,iX 0,iX 0,xF,xF,xF,xF,iX 0,iX 0,iX 0,iX 0,xF,xF,xF,xF,iX 0,iX 0,iX 0,iX 0,xF,xF,xF,xF,xF,xF,xF,xF,xF,xF,xF,xF,xF,xF,xF,xF,xF,xF,xF,xF,xF,xF,xF,xF,xF,xF,xF,xF,xF,xF,xF,xF,xF,xF,xF,xF,xF,xF,xF,xF,xF,xF,xF,xF,xF,xF,xF,xF,xF,xF,xF,xF,xF,xF,xF,xF,xF,xF,xF,xF,.bool true,xF,xF,xF,xF,xF,xF,xF,oX,nX,iX T.parser.state,uX T.parser.utf.b0,uX T.parser.utf.b1,uX T.parser.utf.b2,iX T.parser.utf.n,.string T.parser.marks,.slice pa pn pc,.string T.parser.text,iX T.parser.within,.string T.reply] none (by kernel_rfl) a9 (qc2 (by kernel_rfl)) ?_)
 intro d g B;replace g:Blk d t (TS.vals (qlY T (qkF p1 p2)) m A (nX) (.slice pa pn pc)) qar:=Blk.to g (by kernel_rfl);have P:=zt a8 B (fun i hi (h:i=t)=>h);have ab:=aa.ch B (fun b hb (h:b=t)=>by have:=M b hb;omega);have ac:=a6.ch B (fun b hb (h:b=t)=>by have:=a7 b hb;omega);obtain⟨F,C⟩:∃F:Nat->Prop,F=fun b=>b=t\/FP b\/(w.heap.size<=b/\b<d.heap.size):=⟨_,rfl⟩
 have ad:∀b,y b->w.heap.size<=b/\b<K.heap.size:=fun b hb=>⟨M b hb,a4 b hb⟩
 have hI:TermIn d t m A none 0 0 pa pn pc (qlY T (qkF p1 p2)) F y N (fun _=>False) FP:=start_in (T:=T) (w2:=K) hP ht ht7 rfl rfl rfl rfl P ad O a5 ab ac g C;have Q:F t:=hI.inF.1;have aH:TermAt d t (qlY T (qkF p1 p2)) F:=⟨_,_,_,_,_,_,_,_,_,_,_,_,hI⟩
 have D:=P;have aI:=hI.blk.lt;obtain⟨W,hW⟩:∃W,W=qj p1:=⟨_,rfl⟩
 obtain⟨H,hH⟩:∃H,H=qj p2:=⟨_,rfl⟩
 obtain⟨aJ,ae⟩:=hI.g1.head;have aK:Df t m:=fun e=>hI.t1 (e▸hI.g1.inF);refine q8<|yDe (nS ?_);refine ysr<|yp 10 [] (.l (g.c 0) (.l (ae.c 1) .z))<|yo (yS g fun aL af ag=>?_);have R:=zt (Ch.refl (· =t) d) ag (fun i hi (h:i=t)=>h);refine ye<|yx 1<|qa ?_;have ah:=hI.scalar (T':=({(qlY T (qkF p1 p2))with bot:=(qkF p1 p2).h}:TS)) R (Blk.to af (by kernel_rfl)) rfl rfl rfl rfl;have S:=hI.cht R;have ai:=ah.pk1 hI S;refine qV [0,6] (f':=[(0,pX t),(6,iX 8)])<|qw (σ:=Nat) (fun k=>[(0,pX t),(6,iX (8+8*(k:Int)))]) (fun k u=>k<=7/\(TermAt u t (qfN T (qkF p1 p2) H k) (more F d u)/\Ch F d u)) (fun k=>7-k) 0 rfl ?_ ?_
 ·exact⟨(by omega),(TermAt.eq' ai (by subst hH;show qfN T (qkF p1 p2) (qj p2) 0=_;unfold qfN;rw[tabs0_0];rfl)),S⟩
 intro k E aj aM ak;obtain⟨hk,U,V⟩:=aj;have X:Lim W H (qfN T (qkF p1 p2) H k):=(hW▸hH▸qnl T p1 p2 (qj p2) k hr rfl)
 generalize Y:(qfN T (qkF p1 p2) H k)=j at U X;have al:=X;have aN:=al.all;obtain⟨Z,am,an,ao,ap,aq,ar,au,aO,aP,aQ,aR,f⟩:=U;obtain⟨aS,aT⟩:=f.g1.head;have aU:Df t Z:=fun e=>f.t1 (e▸f.g1.inF);refine ys<|yx 2<|yc (rL (8+8*(k:Int)) 60) (fun av=>?_) fun av=>?_
 ·refine yk<|ys<|qa<|q7<|yp 5 [] (.i (8+8*(k:Int)) (60) .z)<|yo (qaL (28+((8+8*(k:Int)):Int).toNat*1) [.bool true] none (by kernel_rfl) f.blk (by rw[qch];simp only[iz,iP];omega) ?_);intro aw G ax;replace G:Blk aw t (TS.vals ({j with tabs:=(fun i=>if i=((8+8*(k:Int)):Int).toNat then true else j.tabs i)}:TS) Z am (.slice an ao ap) (.slice aq ar au)) qar:=Blk.to G (qg4 j _ _ _ _ _ (by omega) _);have I:=zt (Ch.refl (· =t) E) ax (fun i hi (h:i=t)=>h);refine yE (nB (nS ?_));refine q7<|yp 3 [] (.q6 ((8+8*(k:Int))+8) .z) ?_;have ay:=f.scalar (T':=({j with tabs:=(fun i=>if i=((8+8*(k:Int)):Int).toNat then true else j.tabs i)}:TS)) I G rfl rfl rfl rfl;have a0:=Ch.on V I Q;have az:=ay.pk2 I hI a0;refine yE (fun a ha=>ak (k+1) _ ⟨(by omega),(TermAt.eq' az (by subst Y;show qfN T (qkF p1 p2) H (k+1)=_;unfold qfN;rw[qnk])),a0⟩ (by show 7-(k+1)<7-k;omega) a (by rw[show(8+8*((k+1:Nat):Int))=(8+8*(k:Int))+8 by omega];exact ha.kp [0,6]))
 have aA:k=7:=by omega
 refine qm (eS (qd (qb (qW ?_))));have r:=Ch.on V (Ch.refl (· =t) E) Q;have aB:=f.pk2 (Ch.refl (· =t) E) hI r;subst Y;subst aA hH hW;refine⟨rfl,TermAt.mono aB (fun b hb=>?_) (fun b hb=>?_),?_⟩
 ·rcases hb with hb|hb
  ·rw[C]at hb;exact hb.imp id fun h=>h.imp id fun h=>⟨h.1,by have:=zzs r;omega⟩
  exact .inr (.inr ⟨by have:=zzs D;omega,hb.2⟩)
 ·have hz:=zzs r;have aV:=zzs D;rcases hb with rfl|hb|hb
  ·exact⟨by omega,ht7⟩
  ·have:=hP.2.2 b hb;exact⟨by omega,this.2.1⟩
  exact⟨hb.2,by omega⟩
 refine zt (D.mono fun i _ h=> .inl h) r fun i hi h=>?_;rw[C]at h;exact h.imp id fun h=>h.elim id fun h=>by omega
theorem qhM {s u:ByteArray}(h:(s.toList==u.toList)=true):s=u:=by
 have c:=eq_of_beq h;rw[Go.ByteArray.toList_eq,Go.ByteArray.toList_eq]at c;obtain⟨⟨a⟩⟩:=s;obtain⟨⟨b⟩⟩:=u;have:a=b:=c;rw[this]
theorem mark40 {s:ByteArray}(h:(s.toList==(⟨#[40]⟩:ByteArray).toList)=true):s.size=1/\bt s 0=40:=by
 rw[qhM h];exact⟨rfl,rfl⟩
theorem mark41 {s:ByteArray}(h:(s.toList==(⟨#[41]⟩:ByteArray).toList)=true):s.size=1/\bt s 0=41:=by
 rw[qhM h];exact⟨rfl,rfl⟩
theorem start_at {w:World}{t:Nat}{W H:Int}{T:TS}{F:Nat->Prop}(hA:TermAt w t T F)(hT:LT w)(hL:Lim W H T)(p1 p2:Int):
  CP 66 [.pointer (some ⟨t,0,none⟩),.int .i64 p1,.int .i64 p2].toArray w fun e w'=>e= .returned (.tuple #[])/\TermAt w' t (startT T p1 p2) (more F w w')/\Ch F w w':=by
 obtain⟨g,o,ba,bn,bc,pa,pn,pc,a,c,FB,FP,hI⟩:=hA;have hB:Blk w t (T.valsG (.pointer (some ⟨g,0,none⟩)) (.pointer (some ⟨o,0,none⟩)) (.slice ba bn bc) (.slice pa pn pc)) qar:=by rw[valsG_eq];exact hI.blk
 have hF:∀b,(b=t\/FP b)->F b:=fun b h=>h.elim (fun h=>h▸hI.inF.1) (hI.inF.2.2.2.2 b);refine(qjJ hB ⟨hI.ps,hI.pz,fun b hb=>⟨hI.lt b (hF b (.inr hb)),hI.hi b (hF b (.inr hb)),fun e=>hI.tP (e▸hb)⟩⟩ (hI.hi t hI.inF.1) hT hL.rp p1 p2).mono fun e w' ⟨he,hA',hc⟩=>⟨he,hA'.mono (fun b hb=>?_) (hI.moreOk hc.size),hc.mono fun b _ h=>hF b h⟩
 rcases hb with hb|hb|hb
 ·exact .inl (hF b (.inl hb))
 ·exact .inl (hF b (.inr hb))
 ·exact .inr hb
theorem up_lim {w:World}{t:Nat}{W H:Int}{T:TS}{F:Nat->Prop}(hA:TermAt w t T F)(hT:qai w)(hL:Lim W H T):CP 165 [pX t].toArray w fun e w'=>e= .returned (.tuple #[])/\TermAt w' t (upT T) (more F w w')/\Ch F w w':=
  up_at hA hT (by have:=hL.cu;have:=hL.hb;omega)
theorem esc_at {w:World}{t:Nat}{W H:Int}{T:TS}{F:Nat->Prop}(hA0:TermAt w t T F)(hT:LT w)(hL:Lim W H T){ao:Option Nat}{an cc:Nat}{ac:Ac}(hV:IntsAt w .i64 ao an cc ac.params (fun b=> ¬F b/\b<w.heap.size))(hV8:an<=8)(hVb:∀x∈ac.params,0<=x/\x<=9999):CP 131 [pX t,.agg #[iX ac.kind,rX ac.rune,uX ac.last,.string ac.marks,.slice (ao.map at0) an cc,.string ac.text]].toArray w fun e w'=>e= .returned (.tuple #[])/\TermAt w' t (qhd T ac) (more F w w')/\Ch F w w':=by
 have h:=Sep.startT hA0;have hg:=Gz.of hA0;have hM:=hL;have P:=hM.all;refine yA Tryz.func131 rfl<|ysr<|yo (zN [iX ac.kind,rX ac.rune,uX ac.last,.string ac.marks,.slice (ao.map at0) an cc,.string ac.text] 190 h fun u Q h=>?_);refine ye<|ys<|ysr<|yp 4 [] (.l (h.c 1 3) .z)<|yw [7] (rY ((ac.marks).toList==((⟨#[40]⟩:ByteArray)).toList)) (fun f=>?_) fun f=>?_
 ·have r:=f;obtain⟨s,v⟩:=mark40 f;refine yz 8<|yct<|ys<|ysr<|yp 4 [] (.l (h.c 1 2) .z)<|yw [15] (rE ac.last 48) (fun j=>?_) fun j=>?_
  ·refine yz 8<|yct<|zD [11] h fun u h=>yd (uL 0 11) [4] (.l (h.c 1 3) (.i 0 ((ac.marks).size) (.p (q:=InR .u8 ((bt ac.marks 0)-40)) (in8 (by omega) (by omega)) (.l (h.c 1 2) (.i ((bt ac.marks 0)-40) (2) .z))))) ?_;have hz:(((bt ac.marks 0)-40):Int).toNat=0:=by omega
   refine yK 11 (zTi 0 ({T with draw0:=((ac.last:Int)==48)}:TS) (92+(((bt ac.marks 0)-40):Int).toNat*1) [.bool ((ac.last:Int)==48)] h (fun _ _ _ _=>by rw[hz];kernel_rfl) fun u h=>?_);refine q8<|yDe (nS ?_);refine q9 (rS (yR0 ?_));refine h.tfin hg ?_;simp only[qhd,qbi, *,↓reduceIte,Int.reduceEq,Int.reduceLT,Int.reduceLE,sB]
  refine yp 8 [] (.l (h.c 1 2) .z)<|ye<|yc (rE ac.last 66) (fun d=>?_) fun d=>?_
  ·refine zD [11] h fun u h=>yd (uL 0 11) [4] (.l (h.c 1 3) (.i 0 ((ac.marks).size) (.p (q:=InR .u8 ((bt ac.marks 0)-40)) (in8 (by omega) (by omega)) (.l (h.c 1 2) (.i ((bt ac.marks 0)-40) (2) .z))))) ?_;have hz:(((bt ac.marks 0)-40):Int).toNat=0:=by omega
   refine yK 11 (zTi 0 ({T with draw0:=((ac.last:Int)==48)}:TS) (92+(((bt ac.marks 0)-40):Int).toNat*1) [.bool ((ac.last:Int)==48)] h (fun _ _ _ _=>by rw[hz];kernel_rfl) fun u h=>?_);refine q8<|yDe (nS ?_);refine q9 (rS (yR0 ?_));refine h.tfin hg ?_;simp only[qhd,qbi, *,↓reduceIte,Int.reduceEq,Int.reduceLT,Int.reduceLE,sB]
  refine yk<|q9 (rS (yR0 ?_));refine h.tfin hg ?_;simp only[qhd,qbi, *,↓reduceIte,Int.reduceEq,Int.reduceLT,Int.reduceLE,sB]
 have r:=f;refine yp 8 [] (.l (h.c 1 3) .z)<|ye<|yc (rY ((ac.marks).toList==((⟨#[41]⟩:ByteArray)).toList)) (fun g=>?_) fun g=>?_
 ·have j:=g;obtain⟨s,v⟩:=mark41 g;refine ys<|ysr<|yp 4 [] (.l (h.c 1 2) .z)<|yw [15] (rE ac.last 48) (fun d=>?_) fun d=>?_
  ·refine yz 8<|yct<|zD [11] h fun u h=>yd (uL 0 11) [4] (.l (h.c 1 3) (.i 0 ((ac.marks).size) (.p (q:=InR .u8 ((bt ac.marks 0)-40)) (in8 (by omega) (by omega)) (.l (h.c 1 2) (.i ((bt ac.marks 0)-40) (2) .z))))) ?_;have hz:(((bt ac.marks 0)-40):Int).toNat=1:=by omega
   refine yK 11 (zTi 0 ({T with draw1:=((ac.last:Int)==48)}:TS) (92+(((bt ac.marks 0)-40):Int).toNat*1) [.bool ((ac.last:Int)==48)] h (fun _ _ _ _=>by rw[hz];kernel_rfl) fun u h=>?_);refine q8<|yDe (nS ?_);refine q9 (rS (yR0 ?_));refine h.tfin hg ?_;simp only[qhd,qbi, *,↓reduceIte,Int.reduceEq,Int.reduceLT,Int.reduceLE,sB]
  refine yp 8 [] (.l (h.c 1 2) .z)<|ye<|yc (rE ac.last 66) (fun k=>?_) fun k=>?_
  ·refine zD [11] h fun u h=>yd (uL 0 11) [4] (.l (h.c 1 3) (.i 0 ((ac.marks).size) (.p (q:=InR .u8 ((bt ac.marks 0)-40)) (in8 (by omega) (by omega)) (.l (h.c 1 2) (.i ((bt ac.marks 0)-40) (2) .z))))) ?_;have hz:(((bt ac.marks 0)-40):Int).toNat=1:=by omega
   refine yK 11 (zTi 0 ({T with draw1:=((ac.last:Int)==48)}:TS) (92+(((bt ac.marks 0)-40):Int).toNat*1) [.bool ((ac.last:Int)==48)] h (fun _ _ _ _=>by rw[hz];kernel_rfl) fun u h=>?_);refine q8<|yDe (nS ?_);refine q9 (rS (yR0 ?_));refine h.tfin hg ?_;simp only[qhd,qbi, *,↓reduceIte,Int.reduceEq,Int.reduceLT,Int.reduceLE,sB]
  refine yk<|q9 (rS (yR0 ?_));refine h.tfin hg ?_;simp only[qhd,qbi, *,↓reduceIte,Int.reduceEq,Int.reduceLT,Int.reduceLE,sB]
 have j:=g;refine yk<|ys<|ysr<|yp 3 [] (.l (h.c 1 3) .z)<|ye<|yc (rN (rY ((ac.marks).toList==(ByteArray.empty).toList))) (fun d=>?_) fun d=>?_
 ·refine q9 (rS (yR0 ?_));refine h.tfin hg ?_;simp only[qhd,qbi, *,↓reduceIte,Int.reduceEq,Int.reduceLT,Int.reduceLE,sB]
 refine yk<|ysr<|yp 2 [] (.l (h.c 1 2) .z)<|ye<|qa<|yx 2<|yc (rE ac.last 55) (fun k=>?_) fun k=>?_
 ·refine q7<|yp 7 [] (.a (h.ts 0 2 8) .z)<|yo (zT 0 ({T with saved:=T.cursor}:TS) h fun u h=>?_);refine yE (nB (qW ?_));refine h.tfin hg ?_;simp only[qhd,qbi, *,↓reduceIte,Int.reduceEq,Int.reduceLT,Int.reduceLE,sB]
 refine yx 2<|yc (rE ac.last 56) (fun A=>?_) fun A=>?_
 ·refine q7<|yp 7 [] (.a (h.ts 0 10 8) .z)<|yo (zT 0 ({T with cursor:=T.saved}:TS) h fun u h=>?_);refine yE (nB (qW ?_));refine h.tfin hg ?_;simp only[qhd,qbi, *,↓reduceIte,Int.reduceEq,Int.reduceLT,Int.reduceLE,sB]
 refine yx 2<|yc (rE ac.last 68) (fun B=>?_) fun B=>?_
 ·refine ysr<|yq 1<|yo (yQ (h.met 0 fun F hA hF=>qd1 hA (h.tb hg hT.tb) hL) fun u h=>?_);refine ye<|q7<|yq 4 ?_;have n:Lim W H (qbv T):=(qbN hL)
  generalize C:(qbv T)=T21 at h n;have D:=n;have R:=D.all;refine yo (zT 0 ({T21 with cursor:=(Cur.mk T21.cursor.x T21.cursor.y false T21.cursor.sty)}:TS) h fun u h=>?_);refine yE (nB (qW ?_));subst C;refine h.tfin hg ?_;simp only[qhd,qbi, *,↓reduceIte,Int.reduceEq,Int.reduceLT,Int.reduceLE,sB]
 refine yx 2<|yc (rE ac.last 69) (fun E=>?_) fun E=>?_
 ·refine ysr<|yq 1<|yo (yQ (h.met 0 fun F hA hF=>qd1 hA (h.tb hg hT.tb) hL) fun u h=>?_);refine ye<|q7 ?_;have m:Lim W H (qbv T):=(qbN hL)
  generalize G:(qbv T)=I at h m;have J:=m;have S:=J.all;refine yp 6 [] (.l (h.tc 0 3) .z)<|yo (yQ (h.met 0 fun F hA hF=>qaJ hA (h.tb hg hT.tb) m (0) (I.cursor.y)) fun u h=>?_);refine yE (nB (qW ?_));subst G;refine h.tfin hg ?_;simp only[qhd,qbi, *,↓reduceIte,Int.reduceEq,Int.reduceLT,Int.reduceLE,sB]
 refine yx 2<|yc (rE ac.last 77) (fun K=>?_) fun K=>?_
 ·refine ysr<|yq 1<|yo (yQ (h.met 0 fun F hA hF=>up_lim hA (h.tb hg hT.tb) hL) fun u h=>?_);refine ye<|q7<|yq 4 ?_;have o:Lim W H (upT T):=(lim_up hL)
  generalize L:(upT T)=T25 at h o;have M:=o;have U:=M.all;refine yo (zT 0 ({T25 with cursor:=(Cur.mk T25.cursor.x T25.cursor.y false T25.cursor.sty)}:TS) h fun u h=>?_);refine yE (nB (qW ?_));subst L;refine h.tfin hg ?_;simp only[qhd,qbi, *,↓reduceIte,Int.reduceEq,Int.reduceLT,Int.reduceLE,sB]
 refine yx 2<|yc (rE ac.last 72) (fun N=>?_) fun N=>?_
 ·refine zD [9] h fun u h=>yd (uL 0 9) [] (.l (h.tc 0 2) (.i T.cursor.x (60) .z))<|yK 9 (zTi 0 ({T with tabs:=(fun i=>if i=(T.cursor.x:Int).toNat then true else T.tabs i)}:TS) (28+(T.cursor.x:Int).toNat*1) [.bool true] h (fun _ _ _ _=>qg4 T _ _ _ _ _ (by omega) _) fun u h=>?_);refine q8<|yDe (nB (qW ?_));refine h.tfin hg ?_;simp only[qhd,qbi, *,↓reduceIte,Int.reduceEq,Int.reduceLT,Int.reduceLE,sB]
 refine yx 2<|yc (rE ac.last 99) (fun O=>?_) fun O=>?_
 ·obtain⟨V,X,h⟩:=h.opn 0;refine zD [15] h fun u h=>yd (uL 0 15) [] (.l (h.tg 0) (.l (h.gw 0).1 (.l (h.tg 0) (.l (h.gw 0).2 .z))))<|yK 15 (yQ (h.met 0 fun F hA hF=>start_at hA (h.lt hg hT) hL (T.grid.w) (T.grid.h)) fun u h=>?_);refine q8<|yDe (nB (qW ?_));refine h.tfin hg ?_;simp only[qhd,qbi, *,↓reduceIte,Int.reduceEq,Int.reduceLT,Int.reduceLE,sB]
 refine qo (nB (qW ?_));refine h.tfin hg ?_;simp only[qhd,qbi, *,↓reduceIte,Int.reduceEq,Int.reduceLT,Int.reduceLE,sB]
theorem act_at {w:World}{t:Nat}{W H:Int}{T:TS}{F:Nat->Prop}(hA0:TermAt w t T F)(hT:LT w)(hL:Lim W H T){ao:Option Nat}{an cc:Nat}{ac:Ac}(hV:IntsAt w .i64 ao an cc ac.params (fun b=> ¬F b/\b<w.heap.size))(hV8:an<=8)(hVb:∀x∈ac.params,0<=x/\x<=9999)(hat:ac.text.size<=1000):CP 110 [pX t,.agg #[iX ac.kind,rX ac.rune,uX ac.last,.string ac.marks,.slice (ao.map at0) an cc,.string ac.text]].toArray w fun e w'=>e= .returned (.tuple #[])/\TermAt w' t (qen T ac) (more F w w')/\Ch F w w':=by
 have h:=Sep.startT hA0;have hg:=Gz.of hA0;have hM:=hL;have p:=hM.all;refine yA Tryz.func110 rfl<|ysr<|yo (zN [iX ac.kind,rX ac.rune,uX ac.last,.string ac.marks,.slice (ao.map at0) an cc,.string ac.text] 190 h fun u q h=>?_);refine ye<|ysr<|yp 2 [] (.l (h.c 1 0) .z)<|ye<|qa<|yx 2<|yc (rE ac.kind 0) (fun d=>?_) fun d=>?_
 ·refine q7<|yp 3 [] (.l (h.c 1 1) .z)<|yo (yQ (h.met 0 fun F hA hF=>print_at hA (h.tb hg hT.tb) hL (ac.rune)) fun u h=>?_);refine yE (nB (qW ?_));refine h.tfin hg ?_;simp only[qen,qlV,d,↓reduceIte,Int.reduceEq,Int.reduceLT,Int.reduceLE,sB]
 refine yx 2<|yc (rE ac.kind 1) (fun f=>?_) fun f=>?_
 ·refine q7<|yp 3 [] (.l (h.c 1 2) .z)<|yo (yQ (h.met 0 fun F hA hF=>exec_at hA (h.tb hg hT.tb) hL (ac.last)) fun u h=>?_);refine yE (nB (qW ?_));refine h.tfin hg ?_;simp only[qen,qlV,d,f,↓reduceIte,Int.reduceEq,Int.reduceLT,Int.reduceLE,sB]
 refine yx 2<|yc (rE ac.kind 2) (fun g=>?_) fun g=>?_
 ·refine q7<|yp 2 [] (.a (h.cs 1 0 6) .z)<|yo (yQ (h.met 0 fun F hA hF=>esc_at hA (h.lt hg hT) hL (h.intsF hV hF) hV8 hVb) fun u h=>?_);refine yE (nB (qW ?_));refine h.tfin hg ?_;simp only[qen,qlV,d,f,g,↓reduceIte,Int.reduceEq,Int.reduceLT,Int.reduceLE,sB]
 refine yx 2<|yc (rE ac.kind 3) (fun i=>?_) fun i=>?_
 ·refine q7<|yp 2 [] (.a (h.cs 1 0 6) .z)<|yo (yQ (h.met 0 fun F hA hF=>csi_at hA (h.lt hg hT) hL (h.intsF hV hF) hV8 hVb) fun u h=>?_);refine yE (nB (qW ?_));refine h.tfin hg ?_;simp only[qen,qlV,d,f,g,i,↓reduceIte,Int.reduceEq,Int.reduceLT,Int.reduceLE,sB]
 refine yx 2<|yc (rE ac.kind 4) (fun k=>?_) fun k=>?_
 ·refine ysr<|yp 5 [] (.l (h.c 1 5) .z)<|yw [34] (rM 2 ((ac.text).size:Int)) (fun m=>?_) fun m=>?_
  ·refine yp 10 [] (.l (h.c 1 5) (.j 2 ((ac.text).size) .z))<|yw [39] (rY ((((ac.text).extract 0 (2:Int).toNat)).toList==((⟨#[48,59]⟩:ByteArray)).toList)) (fun n=>?_) fun n=>?_
   ·refine yz 16<|yct<|q7<|yp 6 [] (.l (h.c 1 5) (.j 2 ((ac.text).size) .z))<|yo (zT 0 ({T with title:=((ac.text).extract (2:Int).toNat (ac.text).size)}:TS) h fun u h=>?_);refine yE (nB (qW ?_));refine h.tfin hg ?_;simp only[qen,qlV,d,f,g,i,k,m,n,↓reduceIte,Int.reduceEq,Int.reduceLT,Int.reduceLE,sB]
   refine yp 16 [] (.l (h.c 1 5) (.j 2 ((ac.text).size) .z))<|ye<|yc (rY ((((ac.text).extract 0 (2:Int).toNat)).toList==((⟨#[50,59]⟩:ByteArray)).toList)) (fun o=>?_) fun o=>?_
   ·refine q7<|yp 6 [] (.l (h.c 1 5) (.j 2 ((ac.text).size) .z))<|yo (zT 0 ({T with title:=((ac.text).extract (2:Int).toNat (ac.text).size)}:TS) h fun u h=>?_);refine yE (nB (qW ?_));refine h.tfin hg ?_;simp only[qen,qlV,d,f,g,i,k,m,n,o,↓reduceIte,Int.reduceEq,Int.reduceLT,Int.reduceLE,sB]
   refine qo (nB (qW ?_));refine h.tfin hg ?_;simp only[qen,qlV,d,f,g,i,k,m,n,o,↓reduceIte,Int.reduceEq,Int.reduceLT,Int.reduceLE,sB]
  refine yz 16<|ycf<|qo (nB (qW ?_));refine h.tfin hg ?_;simp only[qen,qlV,d,f,g,i,k,m,↓reduceIte,Int.reduceEq,Int.reduceLT,Int.reduceLE,sB]
 refine qo (nB (qW ?_));refine h.tfin hg ?_;simp only[qen,qlV, *,↓reduceIte,Int.reduceEq,Int.reduceLT,Int.reduceLE,sB]
def qjK (T:TS)(c:Int):TS:=(qbn T.parser c).2.foldl qen {T with parser:=(qbn T.parser c).1}
def qdt (T:TS)(s:ByteArray):Nat->TS
 |0=>T
 |k+1=>qjK (qdt T s k) (bt s (k:Int))
def qhN (T:TS)(s:ByteArray):TS:=qdt T s s.size
structure AcOk (a:Ac):Prop where
 n:a.params.length<=8
 b:∀x∈a.params,0<=x/\x<=9999
 t:a.text.size<=40
theorem qeP {k r l:Int}{m u:ByteArray}(h:u.size<=40):AcOk ⟨k,r,l,m,[],u⟩:=⟨by simp,(fun x hx=>by cases hx),h⟩
theorem qbz (s:Int):(atP s).lim:=⟨qkV,(by decide:(0:Nat)<=2),(by decide:(0:Nat)<=40),(by decide:(0:Nat)<=8),fun x hx=>by cases hx⟩
def qiA (r:PS×List Ac):Prop:=r.1.lim/\ ∀a∈r.2,AcOk a
theorem qaq {p:PS}(h:p.lim):qiA (p,[]):=⟨h,fun a ha=>by cases ha⟩
theorem qeQ {p:PS}{a:Ac}(h:p.lim)(ha:AcOk a):qiA (p,[a]):=⟨h,fun b hb=>by obtain rfl:=iA.1 hb;exact ha⟩
theorem qeR (l:List Int):∀a∈l.map acP,AcOk a:=fun a ha=>by
 obtain⟨r,_,rfl⟩:=j7.1 ha
 exact qeP (by decide)
theorem qlZ {l m:List Ac}(h:∀a∈l,AcOk a)(h':∀a∈m,AcOk a):∀a∈l++m,AcOk a:=fun a ha=>(iD.1 ha).elim (h a) (h' a)
theorem qt {P:PS×List Ac->Prop}{c:Prop}[Decidable c]{a b:PS×List Ac}(h1:c->P a)(h2:¬c->P b):P (if c then a else b):=by
 by_cases h:c
 ·rw[if_pos h];exact h1 h
 ·rw[if_neg h];exact h2 h
theorem qhO {p:PS}(h:p.lim)(s:Int):qiA (qz p s):=qeQ (qbz 0) (qeP h.t)
theorem qnm {p:PS}(h:p.lim)(c:Int):qiA (qs p c):=by
 unfold qs;refine qt (fun _=>qaq ?_) fun _=>qt (fun _=>qaq (qbz 3)) fun _=>qt (fun _=>qaq (qbz 5)) fun _=>qt (fun _=>qaq (qbz 6)) fun _=>qeQ (qbz 0) (qeP (by decide));split
 ·exact⟨h.u,by show(p.marks++qf [c]).size<=2;rw[iT,qb5];omega,h.t,h.n,h.b⟩
 ·exact⟨h.u,h.m,h.t,h.n,h.b⟩
theorem qnn {p:PS}(h:p.lim)(c:Int):qiA (qS p c):=by
 unfold qS;refine qt (fun _=>qaq ⟨h.u,h.m,h.t,h.n,h.b⟩) fun _=>qt (fun _=>qhO h 5) fun _=>qt (fun _=>qaq (qbz 0)) fun _=>qt (fun a=>qaq ⟨h.u,h.m,?_,h.n,h.b⟩) fun _=>qaq h;show(p.text++qf [c]).size<=40;rw[iT,qb5];omega
theorem someL_bd {l:List Int}(h:∀x∈l,0<=x/\x<=9999):∀x∈qbj l,0<=x/\x<=9999:=fun x hx=>by
 unfold qbj at hx
 split at hx
 ·simp at hx;omega
 ·exact h x hx
theorem fed_csi {p:PS}(h:p.lim)(c:Int):qiA (qbE p c):=by
 have d:=qgs p.params;have a:=someL_bd h.b;have e:=qlS h.b;have f:=h.n;unfold qbE;refine qt (fun hc=>qaq ⟨h.u,h.m,h.t,?_,?_⟩) fun _=>qt (fun _=>qaq ?_) fun _=>qt (fun _=>qt (fun _=>qaq (qbz 0)) fun _=>qeQ (qbz 0) ⟨h.n,h.b,(by decide:(0:Nat)<=40)⟩) fun _=>qt (fun _=>qaq ⟨h.u,h.m,h.t,h.n,h.b⟩) fun g=>qaq ⟨h.u,?_,h.t,h.n,h.b⟩
 ·show(qfp _ _).length<=8
  unfold qfp;rw[iR];omega
 ·intro x hx
  have hx':x∈(qbj p.params).set ((qbj p.params).length-1) (min (10*qgt (qbj p.params)+(c-48)) 9999):=hx;rcases jp hx' with hx|rfl
  ·exact a x hx
  ·omega
 ·split
  ·refine⟨h.u,h.m,h.t,?_,?_⟩
   ·show(qbj p.params++[0]).length<=8
    rw[hJ];simp only[iz,iP];omega
   ·intro x hx
    rcases iD.1 hx with hx|hx
    ·exact a x hx
    ·simp at hx;omega
  ·exact⟨h.u,h.m,h.t,by show(qbj p.params).length<=8;omega,a⟩
 ·show(p.marks++qf [c]).size<=2
  have:=h.m;rw[iT,qb5];omega
theorem qm0 {u:US}(h:u.ok){c:Int}(hc:0<=c/\c<=255):(qdg u c).1.ok:=by
 have hb:∀x∈u.pend++[c],0<=x/\x<=255:=fun x hx=>(iD.1 hx).elim (h.pend x) (fun h=>by simp at h;omega);exact qoO (fun x hx=>qdq hb 4 x (iS hx)) (by rw[im];omega)
theorem qno {p:PS}(h:p.lim){c:Int}(hc:0<=c/\c<=255):qiA (qT p c):=by
 unfold qT;refine qt (fun _=>qt (fun _=>⟨qbz 1,qeR _⟩) fun _=>qt (fun _=>⟨⟨qkV,h.m,h.t,h.n,h.b⟩,qlZ (qeR _) fun a ha=>by obtain rfl:=iA.1 ha;exact qeP (by decide)⟩) fun _=>⟨⟨qm0 qkV hc,h.m,h.t,h.n,h.b⟩,qlZ (qeR _) (qeR _)⟩) fun _=>⟨⟨qm0 h.u hc,h.m,h.t,h.n,h.b⟩,qeR _⟩
theorem qjL {p:PS}(h:p.lim){c:Int}(hc:0<=c/\c<=255):qiA (qaV p c):=by
 unfold qaV;exact qt (fun _=>qno h hc) fun _=>qt (fun _=>qnn h c) fun _=>qt (fun _=>qaq (qbz 0)) fun _=>qt (fun _=>qaq (qbz 1)) fun _=>qt (fun _=>qeQ h (qeP (by decide))) fun _=>qt (fun _=>qaq h) fun _=>qt (fun _=>fed_csi h c) fun _=>qnm h c
theorem qiB {p:PS}(h:p.lim){c:Int}(hc:0<=c/\c<=255):qiA (qbn p c):=by
 unfold qbn;exact qt (fun _=>qt (fun _=>qhO h _) fun _=>qjL (qbz 1) hc) fun _=>qjL h hc
theorem fed_len {p:PS}(h:p.lim)(c:Int):(qbn p c).2.length<=8:=by
 have hf:(qbe p.utf).length<=3:=by unfold qbe;rw[iu];have:=h.u.n;omega
 have hu:=qeL h.u c;have d:=qeL qkV c;have a:∀(q:PS) (s:Int),(qz q s).2.length<=8:=fun _ _=>by simp[qz]
 have e:∀q:PS,(qs q c).2.length<=8:=fun q=>by
  unfold qs;exact qt (P:=fun r=>r.2.length<=8) (fun _=>by simp) fun _=>qt (P:=fun r=>r.2.length<=8) (fun _=>by simp) fun _=>qt (P:=fun r=>r.2.length<=8) (fun _=>by simp) fun _=>qt (P:=fun r=>r.2.length<=8) (fun _=>by simp) fun _=>by simp
 have f:∀q:PS,(qS q c).2.length<=8:=fun q=>by
  unfold qS;exact qt (P:=fun r=>r.2.length<=8) (fun _=>by simp) fun _=>qt (P:=fun r=>r.2.length<=8) (fun _=>a _ _) fun _=>qt (P:=fun r=>r.2.length<=8) (fun _=>by simp) fun _=>qt (P:=fun r=>r.2.length<=8) (fun _=>by simp) fun _=>by simp
 have g:∀q:PS,(qbE q c).2.length<=8:=fun q=>by
  unfold qbE;exact qt (P:=fun r=>r.2.length<=8) (fun _=>by simp) fun _=>qt (P:=fun r=>r.2.length<=8) (fun _=>by simp) fun _=>qt (P:=fun r=>r.2.length<=8) (fun _=>qt (P:=fun r=>r.2.length<=8) (fun _=>by simp) fun _=>by simp) fun _=>qt (P:=fun r=>r.2.length<=8) (fun _=>by simp) fun _=>by simp
 have i:(qT p c).2.length<=8:=by
  unfold qT;exact qt (P:=fun r=>r.2.length<=8) (fun _=>qt (P:=fun r=>r.2.length<=8) (fun _=>by simp;omega) fun _=>qt (P:=fun r=>r.2.length<=8) (fun _=>by simp;omega) fun _=>by simp;omega) fun _=>by simp;omega
 have b:∀q:PS,(qT q c).2.length<=8->(qaV q c).2.length<=8:=fun q hq=>by
  unfold qaV;exact qt (P:=fun r=>r.2.length<=8) (fun _=>hq) fun _=>qt (P:=fun r=>r.2.length<=8) (fun _=>f _) fun _=>qt (P:=fun r=>r.2.length<=8) (fun _=>by simp) fun _=>qt (P:=fun r=>r.2.length<=8) (fun _=>by simp) fun _=>qt (P:=fun r=>r.2.length<=8) (fun _=>by simp) fun _=>qt (P:=fun r=>r.2.length<=8) (fun _=>by simp) fun _=>qt (P:=fun r=>r.2.length<=8) (fun _=>g _) fun _=>e _
 have j:(qT (atP 1) c).2.length<=8:=by
  have hz:(qbe (atP 1).utf).length<=3:=by simp[qbe,atP]
  have hv:(qdg (atP 1).utf c).2.length<=4:=d;unfold qT;exact qt (P:=fun r=>r.2.length<=8) (fun _=>qt (P:=fun r=>r.2.length<=8) (fun _=>by simp;omega) fun _=>qt (P:=fun r=>r.2.length<=8) (fun _=>by simp;omega) fun _=>by simp;omega) fun _=>by simp;omega
 unfold qbn;exact qt (P:=fun r=>r.2.length<=8) (fun _=>qt (P:=fun r=>r.2.length<=8) (fun _=>a _ _) fun _=>b _ j) fun _=>b _ i
theorem TermIn.newPs {w w':World}{t g o:Nat}{ba:Option Addr}{bn bc:Nat}{pa:Option Addr}{pn pc:Nat}{T:TS}{F F1 F2 FB FP K:Nat->Prop}(h:TermIn w t g o ba bn bc pa pn pc T F F1 F2 FB FP)(hc:Ch (fun j=>j=t) w w'){p':PS}{po:Option Nat}{pn' pc':Nat}
  (hb:Blk w' t (({T with parser:=p'}:TS).vals g o (.slice ba bn bc) (.slice (po.map at0) pn' pc')) qar) (hp:IntsAt w' .i64 po pn' pc' p'.params K) (hK:∀b,po=some b->FP b\/(¬F b/\gTop<=b)):
  TermIn w' t g o ba bn bc (po.map at0) pn' pc' ({T with parser:=p'}:TS) (fun b=>F b\/po=some b) F1 F2 FB (fun b=>FP b\/po=some b):=by
 obtain⟨f,hL,hl⟩:=h.bk;have a:∀(X:Nat->Prop),(∀b,X b->F b)->(∀b,X b-> ¬FP b)-> ∀b,X b-> ¬(FP b\/po=some b):=fun X i d b hx hy=>hy.elim (d b hx) fun e=>(hK b e).elim (d b hx) fun c=>c.1 (i b hx);exact
 {blk:=hb
  g1:=h.g1.ch hc fun b hb e=>h.t1 (e▸hb)
  g2:=h.g2.ch hc fun b hb e=>h.t2 (e▸hb)
  bk:=⟨f,hL.ch hc fun b hb e=>h.tB (e▸hb),hl⟩
  bcap:=h.bcap
  ps:=⟨hp.1,hp.2.1,(fun e=>hp.2.2.1 (by cases po<;>simp_all)),fun ad e=>by
   cases po with
   |none=>cases e
   |some b=>cases e;exact .inr rfl⟩
  pz:=⟨po,rfl⟩
  bz:=h.bz
  t1:=h.t1,t2:=h.t2,tB:=h.tB
  tP:=a (fun b=>b=t) (fun b e=>e▸h.inF.1) (fun b e=>e▸h.tP) t rfl
  a12:=h.a12,a1B:=h.a1B,a2B:=h.a2B
  a1P:=a F1 h.inF.2.1 h.a1P
  a2P:=a F2 h.inF.2.2.1 h.a2P
  inF:=⟨.inl h.inF.1,fun b hb=> .inl (h.inF.2.1 b hb),fun b hb=> .inl (h.inF.2.2.1 b hb),fun b hb=> .inl (h.inF.2.2.2.1 b hb),fun b hb=>hb.imp (h.inF.2.2.2.2 b) id⟩
  lt:=fun b hb=>hb.elim (fun hb=>ic (h.lt b hb) hc.size) fun e=>(hp.2.2.2 b e).2
  hi:=fun b hb=>hb.elim (h.hi b) fun e=>(hK b e).elim (fun hb=>h.hi b (h.inF.2.2.2.2 b hb)) fun c=>c.2}
theorem TermIn.ints {w:World}{t g o:Nat}{ba:Option Addr}{bn bc:Nat}{pa:Option Addr}{pn pc:Nat}{T:TS}{F F1 F2 FB FP:Nat->Prop}(h:TermIn w t g o ba bn bc pa pn pc T F F1 F2 FB FP):
  ∃po:Option Nat,pa=po.map at0/\IntsAt w .i64 po pn pc T.parser.params (fun b=>po=some b)/\ ∀b,po=some b->FP b:=by
 obtain⟨po,rfl⟩:=h.pz;have hf:∀b,po=some b->FP b:=fun b e=>by subst e;exact h.ps.2.2.2 _ rfl
 refine⟨po,rfl,⟨h.ps.1,h.ps.2.1,fun e=>h.ps.2.2.1 (by rw[e];rfl),fun b e=>⟨e,h.lt b (h.inF.2.2.2.2 b (hf b e))⟩⟩,hf⟩
theorem ActsAt.at {w:World}{b n c:Nat}{l:List Ac}{K:Nat->Prop}(h:ActsAt w (some b) n c l K){j:Nat}(hj:j<n):∃ac ao an cc,l[j]? =some ac/\IntsAt w .i64 ao an cc ac.params K/\
  w.cell? ⟨b,(0+(j:Int).toNat*6),none⟩=some (.int .i64 ac.kind)/\w.cell? ⟨b,(0+(j:Int).toNat*6)+1,none⟩=some (.int .i32 ac.rune)/\w.cell? ⟨b,(0+(j:Int).toNat*6)+2,none⟩=some (.int .u8 ac.last)/\
  w.cell? ⟨b,(0+(j:Int).toNat*6)+3,none⟩=some (.string ac.marks)/\w.cell? ⟨b,(0+(j:Int).toNat*6)+4,none⟩=some (.slice (ao.map at0) an cc)/\w.cell? ⟨b,(0+(j:Int).toNat*6)+5,none⟩=some (.string ac.text):=by
 obtain⟨d,u,y,f⟩:=h.ex;have hl:=h.len;have g:j<l.length:=by omega
 have m:j<d.length:=by omega
 obtain⟨ao,an,cc,e,hv⟩:=f j g m;have x:∀v∈d,v.length=6:=fun v hv=>by
  obtain⟨i,hi,rfl⟩:=List.getElem_of_mem hv;exact(f i (by omega) hi).len
 have a:∀k,k<6-> ∀v,(l[j].vals (.slice (ao.map at0) an cc))[k]? =some v->w.cell? ⟨b,0+(j*6+k),none⟩=some v:=fun k hk v hv=>qcg u.rd _ _ (by rw[qn9 x m hk,e];exact hv);refine⟨l[j],ao,an,cc,ig g,hv,?_⟩;rw[il,iJ];have o:=a 0 (by decide) _ rfl;have p:=a 1 (by decide) _ rfl;have q:=a 2 (by decide) _ rfl;have r:=a 3 (by decide) _ rfl;have s:=a 4 (by decide) _ rfl;have t:=a 5 (by decide) _ rfl;simp only[iJ,Nat.add_zero]at o p q r s t;exact⟨o,p,q,r,s,t⟩
theorem qp2 {l:List Ac}{j:Nat}{ac:Ac}(h:l[j]? =some ac)(T:TS):(l.take (j+1)).foldl qen T=qen ((l.take j).foldl qen T) ac:=by
 obtain⟨hj,rfl⟩:=io.1 h;rw[j4 hj,List.foldl_append];rfl
theorem qp3 {F F2:Nat->Prop}{w u v:World}(h:∀b,F2 b->more F w u b)(h1:w.heap.size<=u.heap.size)(h2:u.heap.size<=v.heap.size):∀b,more F2 u v b->more F w v b:=fun b hb=>hb.elim (fun hb=>(h b hb).imp id fun h=>⟨h.1,by omega⟩) fun hb=> .inr ⟨by omega,hb.2⟩
theorem ch_in {F F2:Nat->Prop}{w u v:World}(hc:Ch F w u)(h:∀b,F2 b->more F w u b)(hc2:Ch F2 u v):Ch F w v:=hc.trans hc2 fun i hi h2=>(h i h2).elim id fun h=>by omega
theorem qiC {W H:Int}{T:TS}(h:Lim W H T)(l:List Ac):Lim W H (l.foldl qen T):=by
 induction l generalizing T with
 |nil=>exact h
 |cons a l ih=>exact ih (qoY h a)
theorem qfs {W H:Int}{T:TS}(h:Lim W H T)(p:PS):Lim W H {T with parser:=p}:=h.flags rfl rfl rfl rfl rfl rfl rfl rfl rfl
theorem lim_feed {W H:Int}{T:TS}(h:Lim W H T)(c:Int):Lim W H (qjK T c):=qiC (qfs h _) _
theorem qjM {W H:Int}{T:TS}(h:Lim W H T)(s:ByteArray)(k:Nat):Lim W H (qdt T s k):=by
 induction k with
 |zero=>exact h
 |succ k ih=>exact lim_feed ih _
theorem qO {c:Prop}[Decidable c]{a b:TS}{p:PS}(h1:a.parser=p)(h2:b.parser=p):(if c then a else b).parser=p:=by
 split<;>assumption
theorem qjN (T:TS)(n:Int):(qbx T n).parser=T.parser:=qO rfl rfl
theorem qiD (T:TS)(x y:Int):(qeG T x y).parser=T.parser:=qO rfl rfl
theorem qee (T:TS):(qbv T).parser=T.parser:=qO (qjN T 1) (qO rfl rfl)
theorem upT_p (T:TS):(upT T).parser=T.parser:=qO rfl (qO rfl rfl)
theorem printT_p (T:TS)(r:Int):(qeH T r).parser=T.parser:=by
 have hA:∀T,(qbR T).parser=T.parser:=fun T=>qO (qee _) rfl;have hB:∀T n,(qbD T n).parser=T.parser:=fun T n=>qO (qO (qee _) rfl) rfl;have hC:∀T n,(qc5 T n).parser=T.parser:=fun T n=>qO rfl rfl;have hE:∀T n,(qgr T n).parser=T.parser:=fun T n=>qO rfl rfl;unfold qeH;rw[hE];exact(hC _ _).trans ((hB _ _).trans (hA _))
theorem execT_p (T:TS)(c:Int):(qdp T c).parser=T.parser:=
 qO rfl (qO rfl (qO (qee T) (qO (qee T) (qO (qee T) (qO rfl (qO rfl (qO rfl rfl)))))))
theorem escT_p (T:TS)(a:Ac):(qhd T a).parser=T.parser:=
 qO (qO rfl rfl) (qO (qO rfl rfl) (qO rfl (qO rfl (qO rfl (qO (qee T) (qO (qee T) (qO (upT_p T) (qO rfl (qO rfl rfl)))))))))
theorem qiE (T:TS)(s:ByteArray):(qe8 T s).parser=T.parser:=qO rfl rfl
theorem tellT_p (T:TS)(c k:Int):(qcN T c k).parser=T.parser:=qO rfl (qO rfl (qO rfl (qO (qiE _ _) (qO (qiE _ _) (qO (qiE _ _) rfl)))))
theorem eraseN_p (T:TS)(k x y:Int)(s:Sty)(a:Int)(j:Nat):(qeN T k x y s a j).parser=T.parser:=by
 induction j with
 |zero=>rfl
 |succ j ih=>exact(qO rfl (qO rfl (qO rfl rfl)):(qbf (qeN T k x y s a j) k x y s (a+(j:Int))).parser=_).trans ih
theorem qiF (T:TS)(k a b:Int):(qgy T k a b).parser=T.parser:=eraseN_p _ _ _ _ _ _ _
theorem editT_p (T:TS)(c n:Int)(l:List Int):(qbo T c n l).parser=T.parser:=
 qO rfl (qO rfl (qO rfl (qO (qiF _ _ _ _) (qO (qO (qiF _ _ _ _) (qiF _ _ _ _)) (qO (qO rfl rfl) (qO (qO rfl rfl) (qO (qjN _ _) (qO rfl (tellT_p _ _ _)))))))))
theorem plainT_p (T:TS)(c:Int)(l:List Int):(qax T c l).parser=T.parser:=
 qO rfl (qO rfl (qO rfl (qO rfl (qO rfl (qO (qiD _ _ _) (qO (qiD _ _ _) (qO rfl (qO (qO (qiD _ _ _) rfl) (editT_p _ _ _ _)))))))))
theorem turnT_p (T:TS)(b:Bool):(qkW T b).parser=T.parser:=qO rfl (qO rfl rfl)
theorem modeT_p (T:TS)(n:Int)(b:Bool):(qbp T n b).parser=T.parser:=qO (qiD _ _ _) (qO rfl (qO rfl (qO (turnT_p _ _) rfl)))
theorem modes_p (T:TS)(l:List Int)(b:Bool):(l.foldl (fun T n=>qbp T n b) T).parser=T.parser:=by
 induction l generalizing T with
 |nil=>rfl
 |cons n l ih=>exact(ih _).trans (modeT_p _ _ _)
theorem csiT_p (T:TS)(a:Ac):(qlU T a).parser=T.parser:=qO (plainT_p _ _ _) (qO (modes_p _ _ _) rfl)
theorem actT_p (T:TS)(a:Ac):(qen T a).parser=T.parser:=qO (printT_p _ _) (qO (execT_p _ _) (qO (escT_p _ _) (qO (csiT_p _ _) (qO (qO rfl rfl) rfl))))
theorem acts_p (T:TS)(l:List Ac):(l.foldl qen T).parser=T.parser:=by
 induction l generalizing T with
 |nil=>rfl
 |cons a l ih=>exact(ih _).trans (actT_p _ _)
theorem qp4 (T:TS)(c:Int):(qjK T c).parser=(qbn T.parser c).1:=acts_p _ _
theorem qdU {T:TS}(h:T.parser.lim)(s:ByteArray)(k:Nat):(qdt T s k).parser.lim:=by
 induction k with
 |zero=>exact h
 |succ k ih=>exact(qp4 _ _)▸(qiB ih (qcZ s _)).1
def zeroT:TS:={grid:=⟨0,0,[]⟩,other:=⟨0,0,[]⟩,cursor:=cur0,saved:=cur0,away:=cur0,top:=0,bot:=0,tabs:=fun _=>false,wrap:=false,origin:=false,insert:=false,hidden:=false,draw0:=false,draw1:=false,shift:=false,alt:=false,title:=ByteArray.empty,back:=[],parser:=⟨0,⟨0,0,0,0⟩,ByteArray.empty,[],ByteArray.empty,0⟩,reply:=ByteArray.empty}
theorem qeS (p1 p2:Int)(w:World)(hT:LT w)(h7:gTop<=w.heap.size):CP 31 [iX p1,iX p2].toArray w fun e w'=> ∃t,e= .returned (pX t)/\TermAt w' t (startT zeroT p1 p2) (fun b=>w.heap.size<=b/\b<w'.heap.size)/\Ch (fun _=>False) w w':=by
 refine yA Tryz.func31 rfl<|yx 1<|ysr<|yq 1<|yo (yN [.pointer none,.pointer none,iX 0,iX 0,xF,xF,xF,xF,iX 0,iX 0,iX 0,iX 0,xF,xF,xF,xF,iX 0,iX 0,iX 0,iX 0,xF,xF,xF,xF,iX 0,iX 0,iX 0,iX 0,xF,xF,xF,xF,xF,xF,xF,xF,xF,xF,xF,xF,xF,xF,xF,xF,xF,xF,xF,xF,xF,xF,xF,xF,xF,xF,xF,xF,xF,xF,xF,xF,xF,xF,xF,xF,xF,xF,xF,xF,xF,xF,xF,xF,xF,xF,xF,xF,xF,xF,xF,xF,xF,xF,xF,xF,xF,xF,xF,xF,xF,xF,xF,xF,xF,xF,xF,xF,oX,nX,iX 0,uX 0,uX 0,uX 0,iX 0,oX,nX,oX,iX 0,oX] 96 fun d a j p k l=>?_);have q:=zn j (zm w);have c:=zu (zm w) l iZ;refine yz 3<|ysr<|yq 3 ?_;have f:Blk d a (zeroT.valsG (.pointer none) (.pointer none) (nX) (nX)) qar:=Blk.to k (by kernel_rfl);have r:=zzs c;have m:PsAt d a none 0 0 zeroT.parser.params (fun _=>False):=⟨⟨Rd.nil _ _,rfl,fun _=>rfl,fun ad e=>by cases e⟩,⟨none,rfl⟩,fun b h=>h.elim⟩
 have n:=qaW (Up.ch c) hT (fun _ h=>h.elim);refine yo (yQ (qjJ f m (by omega) n (by decide) p1 p2) ?_);rintro s ⟨o,g⟩;refine ye<|yx 2<|q9 (yR1 (pX a) ?_);refine⟨a,rfl,TermAt.mono o (fun b hb=>?_) (fun b hb=>⟨hb.2,by omega⟩),zt (Up.ch c) g (fun i hi h=>?_)⟩
 ·have hz:=zzs g;rcases hb with rfl|hb|hb
  ·exact⟨by omega,by have:=f.lt;omega⟩
  ·exact hb.elim
  exact⟨by omega,hb.2⟩
 rcases h with rfl|h
 ·omega
 exact h
theorem qp5 {X:PS×List Ac}{w:World}{po:Option Nat}{pn pc:Nat}{p:PS}{c:Int}(hX:qbn p c=X)(hP:IntsAt w .i64 po pn pc p.params (fun b=>po=some b))(hcB:0<=c/\c<=255)(hU:qcD w)(hp:p.lim)(hn8:pn<=8):CP 109 [.agg (PS.vals p (.slice (po.map at0) pn pc)).toArray,uX c].toArray w fun e w'=>Fed w w' e po X.1 X.2:=by
 subst hX;exact feed_any hP c hcB hU hp hn8
theorem write_at {w:World}{t:Nat}{W H:Int}{T:TS}{F:Nat->Prop}(hA0:TermAt w t T F)(hT:LT w)(hL:Lim W H T)(hp:T.parser.lim)(s:ByteArray)(hs:s.size<=1000000):CP 83 [pX t,.string s].toArray w fun e w'=>e= .returned (.tuple #[])/\TermAt w' t (qhN T s) (more F w w')/\Ch F w w':=by
 obtain⟨g,o,ba,bn,bc,pa,pn,pc,F1,r,FB,FP,hI⟩:=hA0;have hA0:TermAt w t T F:=⟨g,o,ba,bn,bc,pa,pn,pc,F1,r,FB,FP,hI⟩
 have l:=hI.inF.1;obtain⟨gv,cA⟩:=hI.g1.head;have cB:Df t g:=fun e=>hI.t1 (e▸hI.g1.inF);obtain⟨⟨cC,cD⟩,⟨cE,cF⟩,cG,cH⟩:=hI.g1.ok;have bf:=hL;have cI:=bf.all;refine yA Tryz.func83 rfl<|yx 3<|qa ?_;have az:=hI.cht (Ch.refl (· =t) w);have bg:=hI.pk1 hI az;refine qV [0,1,9,10] (f':=[(0,pX t),(1,.string s),(9,iX ((s).size:Int)),(10,iX 0)])<|qw (σ:=Nat) (fun k=>[(0,pX t),(1,.string s),(9,iX ((s).size:Int)),(10,iX (k:Int))]) (fun k u=>k<=s.size/\(TermAt u t (qdt T s k) (more F w u)/\Ch F w u)) (fun k=>s.size-k) 0 rfl ?_ ?_
 ·exact⟨ir _,(TermAt.eq' bg rfl),az⟩
 intro k ah bh cJ aA;obtain⟨hk,aB,ai⟩:=bh;have bi:=qaW ai hT (fun b hb=>hI.hi b hb);have aj:Lim W H (qdt T s k):=(qjM hL s k)
 generalize U:(qdt T s k)=y at aB aj;have bj:=aj;have cK:=bj.all;obtain⟨ak,bk,bl,bm,bo,cL,cM,cN,cO,cP,cQ,cR,C⟩:=aB;obtain⟨cS,cT⟩:=C.g1.head;have cU:Df t ak:=fun e=>C.t1 (e▸C.g1.inF);obtain⟨bp,bq,br,V⟩:=C.ints;subst bq;refine yx 1<|ys<|yc (rL (k:Int) ((s).size:Int)) (fun bs=>?_) fun bs=>?_
 ·refine yk<|ys<|qa<|yx 2<|yx 1<|ys<|yD [8,14] fun D cV Y=>?_;have N:=zt (Ch.refl (· =t) ah) Y eZ;have aC:=qaW Y bi (fun _ h=>h.elim);have Z:=C.blk.ch Y id;have aD:=br.ch Y iZ;refine yd (uL 0 8) [] (.a (Z.cs 98 9) (.i (k:Int) ((s).size) .z)) ?_;have cW:=C.scalar (T':=y) N Z rfl rfl rfl rfl;have aE:=C.scalar (T':=y) N Z rfl rfl rfl rfl;have O:=Ch.on ai N l;have cX:=aE.pk2 N hI O;have bu:=aE.mono (F':=more F w D) (fun b hb=>hb.elim .inl (fun x=> .inr ⟨x.1,by have:=zzs N;omega⟩)) (hI.moreOk O.size);obtain⟨d,a0⟩:∃X,qbn y.parser (bt s (k:Int))=X:=⟨_,rfl⟩
  have a1:(y.parser).lim:=(U▸qdU hp s k)
  have aF:=qiB a1 (qcZ s (k:Int));have bv:=fed_len a1 (bt s (k:Int));rw[a0]at aF bv;refine yK 8 (yC ((qp5 a0 (p:=y.parser) aD (qcZ s _) aC.ut a1 (by have:=a1.n;have:=aD.2.1;omega))) ?_);rintro _ al ⟨E,aG,aH,bw,c,a2,rfl,aI,bx,P⟩;refine⟨_,rfl,?_⟩;have cY:=zzs P;have bz:=qaW P aC (fun _ h=>h.elim);have bA:=Z.ch P id;refine q8<|yd (uL 9 5) [] .z ?_;have a3:=bu.same P iZ;refine yK 14 (qaL 98 [iX d.1.state,uX d.1.utf.b0,uX d.1.utf.b1,uX d.1.utf.b2,iX d.1.utf.n,.string d.1.marks,.slice (E.map at0) aG aH,.string d.1.text,iX d.1.within] none (by kernel_rfl) bA (qc2 (by kernel_rfl)) ?_);intro q am A;replace am:Blk q t (TS.vals ({y with parser:=d.1}:TS) ak bk (.slice bl bm bo) (.slice (E.map at0) aG aH)) qar:=Blk.to am (by kernel_rfl);have ap:∀b,E=some b->bp=some b\/(D.heap.size<=b/\b<al.heap.size):=fun b e=>(aI.2.2.2 b e).1;have G:∀b,more F w D b->b<D.heap.size/\gTop<=b:=hI.moreOk O.size;have cZ:∀b,E=some b-> ¬b=t:=fun b e h=>(ap b e).elim (fun x=>a3.tP (h▸V b x)) (fun x=>by have:=(G t (.inl l)).1;omega);have bB:=aI.ch A (fun b hb (h:b=t)=>hb.elim (fun x=>a3.tP (h▸V b x)) (fun x=>by have:=(G t (.inl l)).1;omega));have f:=a3.newPs A (p':=d.1) am bB (fun b e=>(ap b e).imp (fun h=>V b h) (fun h=>⟨fun x=>by have:=(G b x).1;omega,by have:=(G t (.inl l)).2;have:=(G t (.inl l)).1;omega⟩))
  obtain⟨r,aq⟩:∃F':Nat->Prop,F'=fun b=>more F w D b\/E=some b:=⟨_,rfl⟩
  rw[<-aq]at f;have a4:∀b,r b->more F w q b:=fun b hb=>by
   rw[aq]at hb;rcases hb with hb|hb
   ·exact hb.imp id fun h=>⟨h.1,by have:=zzs A;omega⟩
   rcases ap b hb with h|h
   ·exact(a3.inF.2.2.2.2 b (V b h)).imp id fun h=>⟨h.1,by have:=zzs A;omega⟩
   exact .inr ⟨by have:=zzs O;omega,by have:=zzs A;omega⟩
  have J:Ch F w q:=zt (zt O P eZ) A (fun i _ h=>h▸l);have ar:∀b,((D.heap.size<=b/\b<al.heap.size)/\E≠some b)->b<q.heap.size:=fun b hb=>by have:=zzs A;omega
  have aJ:∀b,((D.heap.size<=b/\b<al.heap.size)/\E≠some b)-> ¬r b:=fun b hb h=>by
   rw[aq]at h;rcases h with h|h
   ·have:=(G b h).1;omega
   exact hb.2 h
  have bC:=qaW A bz (fun b (h:b=t)=>h▸hI.hi t l);have a5:=bx.ch A (fun b hb (h:b=t)=>by have:=(G t (.inl l)).1;omega);have Q:r t:=f.inF.1;have aK:TermAt q t ({y with parser:=d.1}:TS) r:=⟨_,_,_,_,_,_,_,_,_,_,_,_,f⟩
  have au:Lim W H ({y with parser:=d.1}:TS):=qfs aj _;generalize aL:({y with parser:=d.1}:TS)=T68 at f aK au;obtain⟨d0,d1⟩:=f.g1.head;have d2:Df t ak:=fun e=>f.t1 (e▸f.g1.inF);refine q8<|yd [15] [] .z<|yDe (nS ?_);refine yx 3<|qa ?_;rcases bw with _|ab
  ·have av:d.2.length=c:=a5.len;have d3:c=0:=by
    obtain⟨d4,h1,x,h3⟩:=a5.ex;exact(h1.2.2.2.1 rfl).1
   have aM:=f.cht (Ch.refl (· =t) q);have bE:=f.pk1 f aM;refine qV [0,1,9,10,27,28,29] (f':=[(0,pX t),(1,.string s),(9,iX ((s).size:Int)),(10,iX (k:Int)),(27,.slice none c a2),(28,iX (c:Int)),(29,iX 0)])<|qw (σ:=Nat) (fun j=>[(0,pX t),(1,.string s),(9,iX ((s).size:Int)),(10,iX (k:Int)),(27,.slice none c a2),(28,iX (c:Int)),(29,iX (j:Int))]) (fun j v=>j<=c/\(TermAt v t ((d.2.take j).foldl qen T68) (more r q v)/\Ch r q v)) (fun j=>c-j) 0 rfl ?_ ?_
   ·exact⟨ir _,(TermAt.eq' bE rfl),aM⟩
   intro j a6 bF d6 d7;obtain⟨hj,aN,bG⟩:=bF;have aw:Lim W H ((d.2.take j).foldl qen T68):=(qiC au _)
   generalize bH:((d.2.take j).foldl qen T68)=T83 at aN aw;have bI:=aw;have d8:=bI.all;obtain⟨bJ,d9,da,db,dc,dd,de,df,dg,dh,di,dj,a7⟩:=aN;obtain⟨dk,dl⟩:=a7.g1.head;have dm:Df t bJ:=fun e=>a7.t1 (e▸a7.g1.inF);refine yx 1<|ys<|yc (rL (j:Int) (c:Int)) (fun bK=>?_) fun bK=>?_
   ·exfalso;omega
   have ax:j=c:=by omega
   have a8:=Ch.on bG (Ch.refl (· =t) a6) Q;have bL:=a7.pk2 (Ch.refl (· =t) a6) f a8;have aO:=bL.mono (qp3 a4 (zzs J) (zzs a8)) (hI.moreOk (iq (zzs J) (zzs a8)));have bM:=ch_in J a4 a8;have aP:Lim W H T83:=aw;generalize bN:T83=T92 at aO aP;have bO:=aP;have dn:=bO.all;obtain⟨bP,dp,dq,dr,ds,dt,du,dv,dw,dx,dy,dz,a9⟩:=aO;obtain⟨dA,dB⟩:=a9.g1.head;have dC:Df t bP:=fun e=>a9.t1 (e▸a9.g1.inF);refine qm (eS (qd (qb (nB (nS ?_)))));refine q7<|yp 2 [] (.q6 ((k:Int)+1) .z) ?_;have aQ:=Ch.on bM (Ch.refl (· =t) a6) l;have bQ:=a9.pk2 (Ch.refl (· =t) a6) hI aQ;refine yE (fun a ha=>aA (k+1) _ ⟨(by omega),(TermAt.eq' bQ (by subst bN;subst bH;subst aL;subst U;show qjK _ _=_;unfold qjK;rw[a0,ax,<-av,jc])),aQ⟩ (by show s.size-(k+1)<s.size-k;omega) a (ha.kp [0,1,9,10]))
  have av:d.2.length=c:=a5.len;have aR:=f.cht (Ch.refl (· =t) q);have bR:=f.pk1 f aR;refine qV [0,1,9,10,27,28,29] (f':=[(0,pX t),(1,.string s),(9,iX ((s).size:Int)),(10,iX (k:Int)),(27,.slice (some ⟨ab,0,none⟩) c a2),(28,iX (c:Int)),(29,iX 0)])<|qw (σ:=Nat) (fun j=>[(0,pX t),(1,.string s),(9,iX ((s).size:Int)),(10,iX (k:Int)),(27,.slice (some ⟨ab,0,none⟩) c a2),(28,iX (c:Int)),(29,iX (j:Int))]) (fun j v=>j<=c/\(TermAt v t ((d.2.take j).foldl qen T68) (more r q v)/\Ch r q v)) (fun j=>c-j) 0 rfl ?_ ?_
  ·exact⟨ir _,(TermAt.eq' bR rfl),aR⟩
  intro j I bS dD bT;obtain⟨hj,aS,K⟩:=bS;have bU:=qaW K bC (fun b hb=>f.hi b hb);have bV:=a5.ch K (fun b hb h=>aJ b hb h);have R:Lim W H ((d.2.take j).foldl qen T68):=(qiC au _)
  generalize aT:((d.2.take j).foldl qen T68)=L at aS R;have bW:=R;have dE:=bW.all;obtain⟨bX,dF,dG,dH,dI,dJ,dK,dL,dM,dN,dO,dP,B⟩:=aS;obtain⟨dQ,dR⟩:=B.g1.head;have dS:Df t bX:=fun e=>B.t1 (e▸B.g1.inF);refine yx 1<|ys<|yc (rL (j:Int) (c:Int)) (fun bY=>?_) fun bY=>?_
  ·obtain⟨ac,ao,an,cc,aU,bZ,c0,c1,c2,c3,c4,c5⟩:=bV.at (j:=j) (by omega);have ay:=aF.2 ac (jD aU);refine yk<|ys<|qa<|ysr<|yp 2 [] (.i (j:Int) (c) (.m c0 (.m c1 (.m c2 (.m c3 (.m c4 (.m c5 (.e .z))))))))<|yo (yN [iX 0,rX 0,uX 0,oX,nX,oX] 190 fun dT S c6 dU c7 aa=>?_);have dV:I.heap.size<=S:=by rw[c6];exact zzs (Ch.refl (· =t) I)
   have c8:=zt (Ch.refl (· =t) I) aa eZ;have c9:=qaW aa bU (fun _ h=>h.elim);have ca:=B.blk.ch aa id;have cb:=bZ.ch aa iZ;refine yo (yT [iX ac.kind,rX ac.rune,uX ac.last,.string ac.marks,.slice (ao.map at0) an cc,.string ac.text] c7 fun aV cd ad=>?_);have M:=zt c8 ad (fun i hi (h:i=S)=>by omega);have ce:=qaW ad c9 (fun b (h:b=S)=>by have:=hI.hi t l;have:=B.blk.lt;omega);have aW:=ca.ch ad (fun(h:t=S)=>by have:=B.blk.lt;omega);have cf:=cb.ch ad (fun b hb (h:b=S)=>by have:=ar b hb;have:=zzs K;omega);refine ye<|q7<|yp 2 [] (.a (cd.cs 0 6) .z) ?_;have cg:=B.scalar (T':=L) M aW rfl rfl rfl rfl;have aX:=Ch.on K M Q;have dW:=cg.pk2 M f aX;have aY:=cf.mono (K':=fun b=> ¬more r q aV b/\b<aV.heap.size) (fun b hb=>⟨fun h=>h.elim (aJ b hb) (fun h=>by have:=ar b hb;omega),by have:=ar b hb;have:=zzs aX;omega⟩);have ci:=B.scalar (T':=L) M aW rfl rfl rfl rfl;have aZ:=Ch.on K M Q;have cj:=ci.pk2 M f aZ;refine yo (yQ (act_at cj ce R aY (by have:=ay.n;have:=aY.2.1;omega) ay.b (by have:=ay.t;omega)) ?_);rintro b3 ⟨ck,cl⟩;obtain⟨b4,cm⟩:=TermAt.next aK aZ cl ck;have b5:Lim W H (qen L ac):=(qoY R ac)
   generalize cn:(qen L ac)=T150 at b4 b5;have co:=b5;have dX:=co.all;obtain⟨cp,dY,dZ,e0,e1,e2,e3,e4,e5,e6,e7,e8,ae⟩:=b4;obtain⟨e9,ea⟩:=ae.g1.head;have eb:Df t cp:=fun e=>ae.t1 (e▸ae.g1.inF);refine yE (nB (nS ?_));refine q7<|yp 2 [] (.q6 ((j:Int)+1) .z) ?_;have b6:=Ch.on cm (Ch.refl (· =t) b3) Q;have cq:=ae.pk2 (Ch.refl (· =t) b3) f b6;refine yE (fun a ha=>bT (j+1) _ ⟨(by omega),(TermAt.eq' cq (by subst cn;subst aT;exact qp2 aU _)),b6⟩ (by show c-(j+1)<c-j;omega) a (ha.kp [0,1,9,10,27,28,29]))
  have ax:j=c:=by omega
  have af:=Ch.on K (Ch.refl (· =t) I) Q;have cr:=B.pk2 (Ch.refl (· =t) I) f af;have b7:=cr.mono (qp3 a4 (zzs J) (zzs af)) (hI.moreOk (iq (zzs J) (zzs af)));have ct:=ch_in J a4 af;have b8:Lim W H L:=R;generalize cu:L=T160 at b7 b8;have cv:=b8;have ec:=cv.all;obtain⟨cw,ed,ee,ef,eg,eh,ei,ej,ek,el,em,en,ag⟩:=b7;obtain⟨eo,ep⟩:=ag.g1.head;have er:Df t cw:=fun e=>ag.t1 (e▸ag.g1.inF);refine qm (eS (qd (qb (nB (nS ?_)))));refine q7<|yp 2 [] (.q6 ((k:Int)+1) .z) ?_;have b9:=Ch.on ct (Ch.refl (· =t) I) l;have cx:=ag.pk2 (Ch.refl (· =t) I) hI b9;refine yE (fun a ha=>aA (k+1) _ ⟨(by omega),(TermAt.eq' cx (by subst cu;subst aT;subst aL;subst U;show qjK _ _=_;unfold qjK;rw[a0,ax,<-av,jc])),b9⟩ (by show s.size-(k+1)<s.size-k;omega) a (ha.kp [0,1,9,10]))
 have cy:k=s.size:=by omega
 refine qm (eS (qd (qb (qW ?_))));have bb:=Ch.on ai (Ch.refl (· =t) ah) l;have cz:=C.pk2 (Ch.refl (· =t) ah) hI bb;subst U;subst cy;exact⟨rfl,cz,bb⟩
theorem qiG (a b:Cel):(((a.rune:Int)==b.rune)&&(((a.sty.bold==b.sty.bold)&&((a.sty.under==b.sty.under)&&((a.sty.turned==b.sty.turned)&&(((a.sty.fore:Int)==b.sty.fore)&&(((a.sty.back:Int)==b.sty.back)&&true)))))&&true))=(a==b):=qor a b
def Fine (T:TS):Prop:=(∃W H,Lim W H T)/\T.parser.lim
theorem qhP (p1 p2:Int):Fine (startT zeroT p1 p2):=⟨⟨_,_,qeO zeroT p1 p2 (by decide)⟩,qbz 0⟩
theorem qnp {T:TS}(h:Fine T)(s:ByteArray):Fine (qhN T s):=by
 obtain⟨⟨W,H,h⟩,hp⟩:=h;exact⟨⟨W,H,qjM h s _⟩,qdU hp s _⟩
structure Sys (w0 w:World)(bs:List (Nat×List Value×TypeId))(ts:List (Nat×TS)):Prop where
 ch:Ch (fun _=>False) w0 w
 lt:LT w
 top:gTop<=w0.heap.size
 blk:∀(i:Nat) x,bs[i]? =some x->Blk w x.1 x.2.1 x.2.2
 lo:∀(i:Nat) x,bs[i]? =some x->w0.heap.size<=x.1
 df:∀(i j:Nat) x y,bs[i]? =some x->bs[j]? =some y->i≠j->x.1≠y.1
 tm:∃F:Nat->Nat->Prop,(∀(i:Nat) x,ts[i]? =some x->TermAt w x.1 x.2 (F i)/\Fine x.2)/\(∀i j,i≠j-> ∀b,F i b-> ¬F j b)/\(∀i b,F i b->w0.heap.size<=b/\b<w.heap.size)/\ ∀(i j:Nat) x,bs[i]? =some x-> ¬F j x.1
section
variable {w0 w w':World}{bs:List (Nat×List Value×TypeId)}{ts:List (Nat×TS)}
theorem Sys.start (h:LT w)(h7:gTop<=w.heap.size):Sys w w [] []:=⟨Ch.refl _ _,h,h7,fun i x e=>by simp at e,fun i x e=>by simp at e,fun i j x y e=>by simp at e,fun _ _=>False,fun i x e=>by simp at e,fun _ _ _ _ h=>h.elim,fun _ _ h=>h.elim,fun _ _ _ _ h=>h.elim⟩
theorem Sys.same (h:Sys w0 w bs ts)(hc:Ch (fun _=>False) w w'):Sys w0 w' bs ts:=by
 obtain⟨F,a,d,c,f⟩:=h.tm;exact⟨h.ch.trans hc (fun _ _ h=>h),qaW hc h.lt (fun _ h=>h.elim),h.top,fun i x e=>(h.blk i x e).ch hc (fun h=>h),h.lo,h.df,F,fun i x e=>⟨(a i x e).1.ch hc (fun _ _ h=>h),(a i x e).2⟩,d,fun i b hb=>⟨(c i b hb).1,ic (c i b hb).2 hc.size⟩,f⟩
theorem Sys.box (h:Sys w0 w bs ts)(hc:Ch (fun _=>False) w w'){b:Nat}{vs:List Value}{ty:TypeId}(hb:Blk w' b vs ty)(hz:w.heap.size<=b):Sys w0 w' (bs++[(b,vs,ty)]) ts:=by
 have h':=h.same hc;obtain⟨F,c,d,f,m⟩:=h.tm;obtain⟨F',o,p,q,r⟩:=h'.tm;have a:∀i x,(bs++[(b,vs,ty)])[i]? =some x->bs[i]? =some x\/(i=bs.length/\x=(b,vs,ty)):=fun i x e=>by
  rcases iL i bs.length with hi|hi
  ·rw[iw hi]at e;exact .inl e
  ·rw[iF hi]at e
   rcases jm (i-bs.length)with k|k
   ·rw[k]at e;exact .inr ⟨by omega,(ia e).symm⟩
   ·rw[jn (by simp only[iz,iP];omega)]at e;cases e
 refine⟨h'.ch,h'.lt,h'.top,fun i x e=>?_,fun i x e=>?_,fun i j x y e e' n=>?_,F,fun i x e=>⟨(c i x e).1.ch hc (fun _ _ h=>h),(c i x e).2⟩,d,fun i b hb=>⟨(f i b hb).1,ic (f i b hb).2 hc.size⟩,fun i j x e=>?_⟩
 ·rcases a i x e with e|⟨_,rfl⟩
  ·exact h'.blk i x e
  ·exact hb
 ·rcases a i x e with e|⟨_,rfl⟩
  ·exact h.lo i x e
  ·have:=h.ch.size;dsimp only;omega
 ·rcases a i x e with l|⟨c,rfl⟩
  ·rcases a j y e' with g|⟨d,rfl⟩
   ·exact h.df i j x y l g n
   ·have:=(h.blk i x l).lt;dsimp only;omega
  ·rcases a j y e' with g|⟨d,rfl⟩
   ·have:=(h.blk j y g).lt;dsimp only;omega
   ·omega
 ·rcases a i x e with e|⟨_,rfl⟩
  ·exact m i j x e
  ·exact fun hf=>by have:=(f j b hf).2;omega
theorem Sys.set (h:Sys w0 w bs ts)(i:Nat){b:Nat}{vs vs':List Value}{ty:TypeId}(hi:bs[i]? =some (b,vs,ty))(hc:Ch (fun j=>j=b) w w')(hb:Blk w' b vs' ty):Sys w0 w' (bs.set i (b,vs',ty)) ts:=by
 obtain⟨F,d,l,f,g⟩:=h.tm;have c:=h.lo i _ hi;have m:i<bs.length:=(io.1 hi).1;have a:∀j x,(bs.set i (b,vs',ty))[j]? =some x->(j=i/\x=(b,vs',ty))\/(j≠i/\bs[j]? =some x):=fun j x e=>by
  by_cases hj:j=i
  ·subst hj;rw[jq m]at e;exact .inl ⟨rfl,(ia e).symm⟩
  ·rw[jo (fun h=>hj h.symm)]at e;exact .inr ⟨hj,e⟩
 have nF:∀j,¬F j b:=fun j=>g i j _ hi;refine⟨h.ch.trans hc (fun k hk e=>by dsimp only at c;omega),qaW hc h.lt (fun k e=>by have:=h.top;dsimp only at c;omega),h.top,fun j x e=>?_,fun j x e=>?_,fun j k x y e e' n=>?_,F,fun j x e=>⟨(d j x e).1.ch hc (fun k hk e'=>nF j (e'▸hk)),(d j x e).2⟩,l,fun j k hk=>⟨(f j k hk).1,ic (f j k hk).2 hc.size⟩,fun j k x e=>?_⟩
 ·rcases a j x e with⟨_,rfl⟩|⟨hj,e⟩
  ·exact hb
  ·exact(h.blk j x e).ch hc (h.df j i x _ e hi hj)
 ·rcases a j x e with⟨_,rfl⟩|⟨hj,e⟩
  ·exact c
  ·exact h.lo j x e
 ·rcases a j x e with⟨p,rfl⟩|⟨hj,e⟩
  ·rcases a k y e' with⟨o,rfl⟩|⟨hk,e'⟩
   ·omega
   ·exact h.df i k (b,vs,ty) y hi e' (by omega)
  ·rcases a k y e' with⟨o,rfl⟩|⟨hk,e'⟩
   ·exact h.df j i x (b,vs,ty) e hi hj
   ·exact h.df j k x y e e' n
 ·rcases a j x e with⟨_,rfl⟩|⟨hj,e⟩
  ·exact nF k
  ·exact g j k x e
theorem Sys.pre {bs':List (Nat×List Value×TypeId)}(h:Sys w0 w (bs++bs') ts):Sys w0 w bs ts:=by
 obtain⟨F,b,c,d,f⟩:=h.tm;have a:∀(i:Nat) x,bs[i]? =some x->(bs++bs')[i]? =some x:=fun i x e=>by rw[iw (io.1 e).1];exact e
 exact⟨h.ch,h.lt,h.top,fun i x e=>h.blk i x (a i x e),fun i x e=>h.lo i x (a i x e),fun i j x y e e'=>h.df i j x y (a i x e) (a j y e'),F,b,c,d,fun i j x e=>f i j x (a i x e)⟩
theorem Sys.new (h:Sys w0 w bs ts)(p1 p2:Int):CP 31 [.int .i64 p1,.int .i64 p2].toArray w fun e w'=> ∃t,e= .returned (.pointer (some ⟨t,0,none⟩))/\Sys w0 w' bs (ts++[(t,startT zeroT p1 p2)])/\Ch (fun _=>False) w w':=by
 refine(qeS p1 p2 w h.lt (iq h.top h.ch.size)).mono fun e w' ⟨t,he,hA,hc⟩=>⟨t,he,?_,hc⟩
 obtain⟨F,d,g,c,k⟩:=h.tm;have h':=h.same hc;have hz:=hc.size;have n:=h.ch.size;have ht:TermAt w' t (startT zeroT p1 p2) (fun b=>w.heap.size<=b/\b<w'.heap.size):=hA;refine⟨h'.ch,h'.lt,h'.top,h'.blk,h'.lo,h'.df,fun i b=>if i=ts.length then w.heap.size<=b/\b<w'.heap.size else i<ts.length/\F i b,fun i x e=>?_,fun i j l b hb a=>?_,fun i b hb=>?_,fun i j x e hb=>?_⟩
 ·rcases iL i ts.length with hi|hi
  ·rw[iw hi]at e
   refine⟨?_,(d i x e).2⟩;have m:(fun b=>if i=ts.length then w.heap.size<=b/\b<w'.heap.size else i<ts.length/\F i b)=F i:=by
    funext b;rw[if_neg (by omega)];exact propext ⟨fun h=>h.2,fun h=>⟨hi,h⟩⟩
   show TermAt w' x.1 x.2 (fun b=>if i=ts.length then w.heap.size<=b/\b<w'.heap.size else i<ts.length/\F i b);rw[m];exact(d i x e).1.ch hc (fun _ _ h=>h)
  ·rw[iF hi]at e
   rcases jm (i-ts.length)with f|f
   ·rw[f]at e
    obtain rfl:=(ia e).symm;obtain rfl:i=ts.length:=by omega
    simp only[if_true];exact⟨ht,qhP p1 p2⟩
   ·rw[jn (by simp only[iz,iP];omega)]at e;cases e
 ·dsimp only at hb a
  split at hb
  ·split at a
   ·omega
   ·have:=(c j b a.2).2;omega
  ·split at a
   ·have:=(c i b hb.2).2;omega
   ·exact g i j l b hb.2 a.2
 ·dsimp only at hb
  split at hb
  ·omega
  ·have:=c i b hb.2;omega
 ·dsimp only at hb
  split at hb
  ·have:=(h.blk i x e).lt;omega
  ·exact k i j x e hb.2
theorem Sys.step (h:Sys w0 w bs ts){i t:Nat}{T T':TS}(hi:ts[i]? =some (t,T)){k:FuncId}{args:Array Value}{v:Value}
  (hk:∀F,TermAt w t T F->LT w->Fine T->CP k args w fun e w'=>e= .returned v/\TermAt w' t T' (more F w w')/\Ch F w w') (hf:Fine T->Fine T'):
  CP k args w fun e w'=>e= .returned v/\Sys w0 w' bs (ts.set i (t,T')):=by
 obtain⟨F,d,f,c,l⟩:=h.tm;have n:i<ts.length:=(io.1 hi).1;refine(hk (F i) (d i _ hi).1 h.lt (d i _ hi).2).mono fun e w' ⟨he,hA,hc⟩=>⟨he,?_⟩
 have hz:=hc.size;refine⟨Ch.trans h.ch hc (fun b hb a=>?_),qaW hc h.lt (fun b hb=>by have:=c i b hb;have:=h.top;omega),h.top,fun j x e=>(h.blk j x e).ch hc (l j i x e),h.lo,h.df,fun j b=>if j=i then more (F i) w w' b else F j b,fun j x e=>?_,fun j k g b hb a=>?_,fun j b hb=>?_,fun j k x e hb=>?_⟩
 ·have:=(c i b a).1;omega
 ·by_cases hj:j=i
  ·subst hj
   rw[jq n]at e;obtain rfl:=(ia e).symm;simp only[if_true];exact⟨hA,hf (d j _ hi).2⟩
  ·rw[jo (fun h=>hj h.symm)]at e
   simp only[if_neg hj];exact⟨(d j x e).1.ch hc (fun b hb=>f j i hj b hb),(d j x e).2⟩
 ·dsimp only at hb a
  split at hb
  ·rename_i m
   subst m;rw[if_neg (fun h=>g h.symm)]at a;rcases hb with hb|hb
   ·exact f j k g b hb a
   ·have:=(c k b a).2;omega
  ·split at a
   ·rename_i m o
    subst o;rcases a with a|a
    ·exact f j k g b hb a
    ·have:=(c j b hb).2;omega
   ·exact f j k g b hb a
 ·dsimp only at hb
  have p:=h.ch.size;split at hb
  ·rcases hb with hb|hb
   ·have:=c i b hb;omega
   ·omega
  ·have:=c j b hb;omega
 ·dsimp only at hb
  split at hb
  ·rcases hb with hb|hb
   ·exact l j i x e hb
   ·have:=(h.blk j x e).lt;omega
  ·exact l j k x e hb
theorem Sys.look (h:Sys w0 w bs ts){k:FuncId}{args:Array Value}{v:Value}(hk:CP k args w (RQ v w)):CP k args w fun e w'=>e= .returned v/\Sys w0 w' bs ts:=
 hk.mono fun _ _ ⟨he,hc⟩=>⟨he,h.same hc⟩
theorem Sys.at (h:Sys w0 w bs ts){i t:Nat}{T:TS}(hi:ts[i]? =some (t,T)):∃F,TermAt w t T F:=by
 obtain⟨F,a,_⟩:=h.tm;exact⟨_,(a i _ hi).1⟩
theorem Sys.fine (h:Sys w0 w bs ts){i t:Nat}{T:TS}(hi:ts[i]? =some (t,T)):Fine T:=by
 obtain⟨F,a,_⟩:=h.tm;exact(a i _ hi).2
theorem Sys.cell (h:Sys w0 w bs ts){i t:Nat}{T:TS}(hi:ts[i]? =some (t,T))(c:Nat){v:Value}(hv:∀g o bk ps,(T.vals g o bk ps)[c]? =some v):w.cell? ⟨t,c,none⟩=some v:=by
 obtain⟨F,g,o,ba,bn,bc,pa,pn,pc,a,b,FB,FP,hI⟩:=h.at hi;exact(hI.blk.cell c).trans (hv _ _ _ _)
theorem Sys.grid (h:Sys w0 w bs ts){i t:Nat}{T:TS}(hi:ts[i]? =some (t,T)):∃g F,w.cell? ⟨t,0,none⟩=some (.pointer (some ⟨g,0,none⟩))/\GridAt w g T.grid F:=by
 obtain⟨F,g,o,ba,bn,bc,pa,pn,pc,a,b,FB,FP,hI⟩:=h.at hi;exact⟨g,a,(hI.blk.cell 0).trans rfl,hI.g1⟩
theorem Sys.other (h:Sys w0 w bs ts){i t:Nat}{T:TS}(hi:ts[i]? =some (t,T)):∃g F,w.cell? ⟨t,1,none⟩=some (.pointer (some ⟨g,0,none⟩))/\GridAt w g T.other F:=by
 obtain⟨F,g,o,ba,bn,bc,pa,pn,pc,b,a,FB,FP,hI⟩:=h.at hi;exact⟨o,a,(hI.blk.cell 1).trans rfl,hI.g2⟩
theorem Sys.outs (h:Sys w0 w bs ts){i t:Nat}{T:TS}(hi:ts[i]? =some (t,T)):∃ba bn bc rows FB,w.cell? ⟨t,97,none⟩=some (.slice ba bn bc)/\bn=T.back.length/\LinesAt w ba bn rows FB/\rows.map Row.l=T.back/\(ba=none\/ ∃b off,ba=some ⟨b,off,none⟩):=by
 obtain⟨F,g,o,ba,bn,bc,pa,pn,pc,a,c,FB,FP,hI⟩:=h.at hi;obtain⟨rows,hL,hm⟩:=hI.bk;exact⟨ba,bn,bc,rows,FB,(hI.blk.cell 97).trans (by kernel_rfl),by rw[<-hm,hZ,hL.len],hL,hm,hI.bz⟩
theorem Fine.back {T:TS}(h:Fine T):T.back.length<=1000:=by obtain⟨⟨W,H,h⟩,_⟩:=h;exact iq h.bk (by decide)
theorem Fine.params {T:TS}(h:Fine T):T.parser.params.length<=1000:=iq h.2.n (by decide)
end
end Go.Proofs.YtjjcnhgpccancaaGreatDoor.X

namespace Go.Proofs.YtjjcnhgpccancaaGreatDoor.X
open Go Go.RowKit Go.Proofs.YtjjcnhgpccancaaGreatDoor
def PS.gr (p:PS):Prop:=p.state=0->p={atP 0 with utf:=p.utf}
abbrev b24:ByteArray:=⟨#[24]⟩
end Go.Proofs.YtjjcnhgpccancaaGreatDoor.X

namespace Go.Proofs.YtjjcnhgpccancaaGreatDoor.X
open Go Go.RowKit Go.Proofs.YtjjcnhgpccancaaGreatDoor
structure Kp (T U:TS):Prop where
 alt:U.alt=true
 other:U.other=T.other
 away:U.away=T.away
 saved:U.saved=T.saved
 top:U.top=T.top
 bot:U.bot=T.bot
 title:U.title=T.title
 back:U.back=T.back
theorem Kp.refl {T:TS}(h:T.alt=true):Kp T T:=⟨h,rfl,rfl,rfl,rfl,rfl,rfl,rfl⟩
theorem Kp.trans {T U V:TS}(h:Kp T U)(k:Kp U V):Kp T V:=⟨k.alt,k.other.trans h.other,k.away.trans h.away,k.saved.trans h.saved,k.top.trans h.top,k.bot.trans h.bot,k.title.trans h.title,k.back.trans h.back⟩
section
variable {w w':World}{t g o:Nat}{ba:Option Addr}{bn bc:Nat}{pa:Option Addr}{pn pc:Nat}{T:TS}{F F1 F2 FB FP:Nat->Prop}
theorem TermIn.grid2 (h:TermIn w t g o ba bn bc pa pn pc T F F1 F2 FB FP)(hc:Ch F2 w w'){G':Gr}{F2':Nat->Prop}(hG:GridAt w' o G' F2')(hF:∀b,F2' b->more F2 w w' b):
  TermIn w' t g o ba bn bc pa pn pc ({T with other:=G'}:TS) (more F w w') F1 F2' FB FP:=by
 have i:∀b,F1 b->b<w.heap.size:=h.g1.lt;have d:∀b,F b->b<w.heap.size:=h.lt;have j:=h.blk.lt;obtain⟨f,hL,hl⟩:=h.bk;have ap:∀(X:Nat->Prop),(∀b,X b->F b)->(∀b,F2 b-> ¬X b)-> ∀b,F2' b-> ¬X b:=fun X hX ha b hb hx=>by
  rcases hF b hb with a|a
  ·exact ha b a hx
  ·have:=d b (hX b hx);omega
 exact
 {blk:=h.blk.ch hc h.t2
  g1:=h.g1.ch hc fun b a c=>h.a12 b a c
  g2:=hG
  bk:=⟨f,hL.ch hc fun b hb a=>h.a2B b a hb,hl⟩
  bcap:=h.bcap
  ps:=⟨h.ps.1.ch hc fun ad e a=>h.a2P _ a (h.ps.2.2.2 ad e),h.ps.2⟩
  pz:=h.pz
  bz:=h.bz
  t1:=h.t1
  t2:=fun hb=>by
   rcases hF t hb with a|a
   ·exact h.t2 a
   ·omega
  tB:=h.tB,tP:=h.tP
  a12:=fun b a c=>ap F1 h.inF.2.1 (fun b c a=>h.a12 b a c) b c a
  a1B:=h.a1B
  a2B:=ap FB h.inF.2.2.2.1 h.a2B
  a1P:=h.a1P
  a2P:=ap FP h.inF.2.2.2.2 h.a2P
  inF:=⟨.inl h.inF.1,fun b hb=> .inl (h.inF.2.1 b hb),fun b hb=>(hF b hb).elim (fun a=> .inl (h.inF.2.2.1 b a)) .inr,fun b hb=> .inl (h.inF.2.2.2.1 b hb),fun b hb=> .inl (h.inF.2.2.2.2 b hb)⟩
  lt:=fun b hb=>hb.elim (fun hb=>ic (d b hb) hc.size) fun hb=>hb.2
  hi:=fun b hb=>hb.elim (h.hi b) fun hb=>by have:=h.hi t h.inF.1;omega}
theorem TermIn.chF2 (h:TermIn w t g o ba bn bc pa pn pc T F F1 F2 FB FP)(hc:Ch F2 w w'):Ch F w w':=hc.mono fun b _ hb=>h.inF.2.2.1 b hb
end
def qjO (p:Int):Int:=min (max p 1) 60
def upI (T:TS)(p2:Int):Int:=max (T.cursor.y-qjO p2+1) 0
def fixC (c:Cur)(w h:Int):Cur:=⟨min c.x (w-1),min c.y (h-1),c.late&&((c.x:Int)==w-1),c.sty⟩
def rs1 (T:TS)(p1 p2:Int):TS:=
 if T.alt=true then{T with grid:=qeb T.grid p1 (qjO p2) (upI T p2)}
 else{T with grid:=qeb T.grid p1 (qjO p2) (upI T p2),back:=qhm T.back (T.grid.lines.take (qg2 T.grid (upI T p2)).toNat)}
def rs2 (T:TS)(p1 p2:Int):TS:={rs1 T p1 p2 with other:=qeb (rs1 T p1 p2).other p1 (qjO p2) 0}
def qd2 (T:TS)(p1 p2:Int):TS:=
 {rs2 T p1 p2 with
  top:=0,bot:=(rs2 T p1 p2).grid.h
  cursor:=fixC ⟨(rs2 T p1 p2).cursor.x,(rs2 T p1 p2).cursor.y-upI T p2,(rs2 T p1 p2).cursor.late,(rs2 T p1 p2).cursor.sty⟩ (rs2 T p1 p2).grid.w (rs2 T p1 p2).grid.h
  saved:=fixC (rs2 T p1 p2).saved (rs2 T p1 p2).grid.w (rs2 T p1 p2).grid.h
  away:=fixC (rs2 T p1 p2).away (rs2 T p1 p2).grid.w (rs2 T p1 p2).grid.h}
theorem rs1_f (T:TS)(p1 p2:Int):(rs1 T p1 p2).cursor=T.cursor/\(rs1 T p1 p2).saved=T.saved/\(rs1 T p1 p2).away=T.away/\(rs1 T p1 p2).other=T.other/\(rs1 T p1 p2).reply=T.reply/\(rs1 T p1 p2).parser=T.parser/\(rs1 T p1 p2).alt=T.alt/\
  (rs1 T p1 p2).grid.w=qj p1/\(rs1 T p1 p2).grid.h=qj (qjO p2):=by
 unfold rs1;split<;>exact⟨rfl,rfl,rfl,rfl,rfl,rfl,rfl,rfl,rfl⟩
theorem qkY (p:Int):1<=qjO p/\qjO p<=60/\qj (qjO p)=qjO p/\qj p=qjO p:=by unfold qjO qj;omega
theorem rs2_f (T:TS)(p1 p2:Int):(rs2 T p1 p2).cursor=T.cursor/\(rs2 T p1 p2).saved=T.saved/\(rs2 T p1 p2).away=T.away/\(rs2 T p1 p2).grid.w=qj p1/\(rs2 T p1 p2).grid.h=qjO p2/\(rs2 T p1 p2).reply=T.reply/\(rs2 T p1 p2).parser=T.parser:=by
 obtain⟨a,b,c,i,d,e,j,f,k⟩:=rs1_f T p1 p2;have hb:=qkY p2;exact⟨a,b,c,f,by show(rs1 T p1 p2).grid.h=_;omega,d,e⟩
theorem rs1_back {W H:Int}{T:TS}(h:Lim W H T)(p1 p2:Int):(rs1 T p1 p2).back.length<=20:=by
 unfold rs1;split
 ·exact h.bk
 ·exact qjz _ _
theorem qhQ {W H:Int}{T:TS}(h:Lim W H T)(p1 p2:Int):Lim (qj p1) (qj p2) (qd2 T p1 p2):=by
 obtain⟨c,d,e,a,b,f,j⟩:=rs2_f T p1 p2;have hb:=qkY p2;have i:1<=qj p1/\qj p1<=60:=by unfold qj;omega
 obtain⟨⟨k,l⟩,m,n⟩:=h.cu;obtain⟨⟨p,q⟩,r,s⟩:=h.sa;obtain⟨⟨u,v⟩,z,A⟩:=h.aw;refine⟨i,by omega,⟨a,by show(rs2 T p1 p2).grid.h=_;omega⟩,⟨rfl,by show qj (qjO p2)=_;omega⟩,?_,?_,?_,?_,rs1_back h p1 p2,by show(rs2 T p1 p2).reply.size<=400;rw[f];exact h.rp⟩
 ·show(0<=min (rs2 T p1 p2).cursor.x ((rs2 T p1 p2).grid.w-1)/\min (rs2 T p1 p2).cursor.x ((rs2 T p1 p2).grid.w-1)<_)/\0<=min ((rs2 T p1 p2).cursor.y-upI T p2) ((rs2 T p1 p2).grid.h-1)/\min ((rs2 T p1 p2).cursor.y-upI T p2) ((rs2 T p1 p2).grid.h-1)<_
  rw[c,a,b];unfold upI;omega
 ·show(0<=min (rs2 T p1 p2).saved.x ((rs2 T p1 p2).grid.w-1)/\min (rs2 T p1 p2).saved.x ((rs2 T p1 p2).grid.w-1)<_)/\0<=min (rs2 T p1 p2).saved.y ((rs2 T p1 p2).grid.h-1)/\min (rs2 T p1 p2).saved.y ((rs2 T p1 p2).grid.h-1)<_
  rw[d,a,b];omega
 ·show(0<=min (rs2 T p1 p2).away.x ((rs2 T p1 p2).grid.w-1)/\min (rs2 T p1 p2).away.x ((rs2 T p1 p2).grid.w-1)<_)/\0<=min (rs2 T p1 p2).away.y ((rs2 T p1 p2).grid.h-1)/\min (rs2 T p1 p2).away.y ((rs2 T p1 p2).grid.h-1)<_
  rw[e,a,b];omega
 ·show 0<=(0:Int)/\(0:Int)<(rs2 T p1 p2).grid.h/\(rs2 T p1 p2).grid.h<=_
  rw[b];omega
theorem qeT (T:TS)(p1 p2:Int):(qd2 T p1 p2).parser=T.parser:=(rs2_f T p1 p2).2.2.2.2.2.2
theorem qp6 {w:World}{t:Nat}{W H:Int}{T:TS}{F:Nat->Prop}(hA0:TermAt w t T F)(hT:LT w)(hL:Lim W H T)(p1 p2:Int):CP 84 [pX t,iX p1,iX p2].toArray w fun e w'=>e= .returned (.tuple #[])/\TermAt w' t (qd2 T p1 p2) (more F w w')/\Ch F w w':=by
 obtain⟨g,o,ba,bn,bc,pa,pn,pc,F1,F2,FB,FP,hI⟩:=hA0;have hA0:TermAt w t T F:=⟨g,o,ba,bn,bc,pa,pn,pc,F1,F2,FB,FP,hI⟩
 have aW:=hI.inF.1;obtain⟨gv,cu⟩:=hI.g1.head;have cv:Df t g:=fun e=>hI.t1 (e▸hI.g1.inF);obtain⟨⟨cw,cx⟩,⟨cy,cz⟩,cA,cB⟩:=hI.g1.ok;have aX:=hL;have cC:=aX.all;refine yA Tryz.func84 rfl<|yx 4<|ysr<|yp 10 [] (.l (hI.blk.c 3) (.q6 (T.cursor.y-(min ((max (p2:Int) 1):Int) 60)) (.q6 ((T.cursor.y-(min ((max (p2:Int) 1):Int) 60))+1) .z)))<|ye<|ysr<|yp 7 [] (.l (hI.blk.c 0) .z)<|yo (yC (qhy g T.grid F1 p1 (qjO p2) (upI T p2) _ hT.tb hI.g1) ?_);rintro _ X ⟨ro,n1,cD,aY,K1,rfl,ag,ah,hG,hF,hK,b0,hc⟩;refine⟨_,rfl,?_⟩;have E:=hI.grid1 hc hG hF;have C:=hI.chF hc;have b1:=qaW C hT (fun b hb=>hI.hi b hb);have b2:∀b,K1 b->more F w X b/\ ¬aY b/\ ¬F2 b/\b≠t:=fun b hb=>by
  have f:=hK b hb;refine⟨f.elim (fun h=> .inl (hI.inF.2.1 b h)) .inr,fun h=>b0 b h hb,fun h=>?_,fun h=>?_⟩
  ·rcases f with f|f
   ·exact hI.a12 b f h
   have:=hI.g2.lt b h;omega
  rcases f with f|f
  ·exact hI.t1 (h▸f)
  have:=hI.blk.lt;omega
 have b3:n1<=1000:=by
  have h1:=ag.len;have f:=congrArg List.length ah;rw[hZ,im]at f;omega
 refine yz 9<|qb4 ([(0,pX t),(1,iX p1),(2,iX (qjO p2)),(6,iX (upI T p2))]) (fun u=>TermAt u t (rs1 T p1 p2) (more F w u)/\Ch F w u/\LT u) (fun cE aj=>?_) (fun u13 b4=>?_)
 ·refine ysr<|yp 5 [] (.l (E.blk.c 95) .z)<|ye<|yc (rN (rY T.alt)) (fun Y=>?_) fun Y=>?_
  ·refine q7<|yq 2<|yo (yC (qlO (lc:=n1) E ag (fun e=>by cases e) b2 (by have:=hI.bk;obtain⟨rr,h1,f⟩:=this;have h3:=h1.len;have h4:rr.length=T.back.length:=(by have h5:=congrArg List.length f;rw[hZ]at h5;exact h5);omega) b3) ?_);rintro _ al ⟨cH,cI,cJ,rfl,b5,O⟩;refine⟨_,rfl,?_⟩;refine yE (fun a ha=>aj _ ⟨TermAt.eq' (show TermAt al t _ (more F w al)from⟨_,_,_,_,_,_,_,_,_,_,_,_,b5.mono (qcc C.size O.size) (hI.moreOk (iq C.size O.size))⟩) (by unfold rs1;rw[if_neg (by rw[Y];decide),<-ah]),Ch.more C (E.cht O),qaW (Ch.more C (E.cht O)) hT (fun b hb=>hI.hi b hb)⟩ a (ha.kp [0,1,2,6]))
  refine qo (fun a ha=>aj _ ⟨TermAt.eq' (show TermAt X t _ (more F w X)from⟨_,_,_,_,_,_,_,_,_,_,_,_,E⟩) (by unfold rs1;rw[if_pos Y]),C,b1⟩ a (ha.kp [0,1,2,6]))
 obtain⟨⟨j,k,n,p,q,r,s,v,b6,b7,b8,b9,P⟩,am,bb⟩:=b4;refine ysr<|yp 6 [] (.l (P.blk.c 1) .z)<|yo (yC (qhy k (rs1 T p1 p2).other b7 p1 (qjO p2) 0 _ bb.tb P.g2) ?_);rintro _ B ⟨cK,n6,cM,bd,K6,rfl,cO,cP,bf,bg,cQ,cR,an⟩;refine⟨_,rfl,?_⟩;have D:TermIn B t j k n p q r s v (rs2 T p1 p2) (more (more F w u13) u13 B) b6 bd b8 b9:=P.grid2 an bf bg;have ao:=P.chF2 an;have bh:=Ch.more am ao;obtain⟨d1,d2,d3,d4,d5,d6,d7⟩:=rs2_f T p1 p2;have cW:(rs2 T p1 p2).cursor.x=T.cursor.x:=by rw[d1]
 have cX:(rs2 T p1 p2).cursor.y=T.cursor.y:=by rw[d1]
 have cY:(rs2 T p1 p2).saved.x=T.saved.x:=by rw[d2]
 have cZ:(rs2 T p1 p2).saved.y=T.saved.y:=by rw[d2]
 have d0:(rs2 T p1 p2).away.x=T.away.x:=by rw[d3]
 have d8:(rs2 T p1 p2).away.y=T.away.y:=by rw[d3]
 have d9:=qkY p2;have da:1<=qj p1/\qj p1<=60:=by unfold qj;omega
 have db:0<=upI T p2/\upI T p2<=60:=by unfold upI;omega
 obtain⟨dc,G⟩:=D.g1.head;have A:Df t j:=fun e=>D.t1 (e▸D.g1.inF);refine ye<|ysr<|yp 11 [] (.l (D.blk.c 0) (.l (G.c 1) .z))<|yo (yS D.blk fun dd bi au=>?_);have bj:=zt (Ch.refl (· =t) B) au (fun i hi (h:i=t)=>h);have bl:=G.ch au (fun h=>A h.symm);refine yq 14<|yo (yS bi fun de av aw=>?_);have bm:=zt bj aw (fun i hi (h:i=t)=>h);have bo:=bl.ch aw (fun h=>A h.symm);refine ye<|ysr<|yp 10 [] (.l (av.c 3) (.q6 ((rs2 T p1 p2).cursor.y-(upI T p2)) .z))<|yo (yS av fun df bp ax=>?_);have bq:=zt bm ax (fun i hi (h:i=t)=>h);have br:=bo.ch ax (fun h=>A h.symm);refine ye<|ys<|yD [9] fun dg dh Z=>?_;have ay:=zt bq Z eZ;have bs:=br.ch Z id;have m:=bp.ch Z id;refine yd [0,1,2,3,4,5,6,7,8,11] [] .z<|yK 9 (yB [.pointer (some ⟨t,2,none⟩),.pointer (some ⟨t,10,none⟩),.pointer (some ⟨t,18,none⟩)] 167 3 fun di d bt dj az a0=>?_);have dk:B.heap.size<=d:=by rw[bt];exact zzs ay
 have bu:=zt ay a0 eZ;have bv:=bs.ch a0 id;have bw:=m.ch a0 id;refine q8<|yd [10] [] .z<|yDe (nS ?_);refine qa<|yU 4 (yU1 ?_);refine yx 1<|ys<|yct<|yk<|ys<|qa<|ysr<|yp 3 [] (.i 0 (3) (.l (az.c 0) .z))<|ye<|qb4 ([(0,pX t),(9,.pointer (some ⟨t,2,none⟩)),(77,.slice (some ⟨d,0,none⟩) 3 3),(78,iX 3),(79,iX 0)]) (fun u=>Blk u t (TS.vals ({(rs2 T p1 p2)with cursor:=(Cur.mk (rs2 T p1 p2).cursor.x ((rs2 T p1 p2).cursor.y-(upI T p2)) ((rs2 T p1 p2).cursor.late&&(((rs2 T p1 p2).cursor.x:Int)==(rs2 T p1 p2).grid.w-1)) (rs2 T p1 p2).cursor.sty),top:=0,bot:=(rs2 T p1 p2).grid.h}:TS) j k (.slice n p q) (.slice r s v)) qar/\Ch (· =t) B u/\Blk u d [.pointer (some ⟨t,2,none⟩),.pointer (some ⟨t,10,none⟩),.pointer (some ⟨t,18,none⟩)] 167) (fun dl aA=>?_) (fun u54 bx=>?_)
 ·refine yD [22] fun dm dn Q=>?_;have aB:=zt bu Q eZ;have bz:=bv.ch Q id;have I:=bw.ch Q id;have aC:=az.ch Q id;refine yd (uL 0 6) [] (.l (I.c 4) .z)<|yv [88] (rY (rs2 T p1 p2).cursor.late) (fun a1=>?_) fun a1=>?_
  ·refine yd (uL 6 16) [] (.l (I.c 2) (.l (I.c 0) (.l (bz.c 0) (.q6 ((rs2 T p1 p2).grid.w-1) .z))))<|yK 22 (yS I fun dp bA aD=>?_);have bB:=zt aB aD (fun i hi (h:i=t)=>h);have bC:=aC.ch aD (fun(h:d=t)=>by have:=m.lt;omega);refine q8<|yDe (fun a ha=>aA _ ⟨Blk.to (Blk.to (cs':=(TS.vals ({(rs2 T p1 p2)with cursor:=(Cur.mk (rs2 T p1 p2).cursor.x ((rs2 T p1 p2).cursor.y-(upI T p2)) (((rs2 T p1 p2).cursor.x:Int)==((rs2 T p1 p2).grid.w-1)) (rs2 T p1 p2).cursor.sty),top:=0,bot:=(rs2 T p1 p2).grid.h}:TS) j k (.slice n p q) (.slice r s v))) bA (by kernel_rfl)) (by simp only[a1,jO,k9]),bB,bC⟩ a (ha.kp [0,9,77,78,79]))
  refine yd (uL 6 16) [] .z<|yK 22 (yS I fun dq bD aE=>?_);have bE:=zt aB aE (fun i hi (h:i=t)=>h);have bF:=aC.ch aE (fun(h:d=t)=>by have:=m.lt;omega);refine q8<|yDe (fun a ha=>aA _ ⟨Blk.to (Blk.to (cs':=(TS.vals ({(rs2 T p1 p2)with cursor:=(Cur.mk (rs2 T p1 p2).cursor.x ((rs2 T p1 p2).cursor.y-(upI T p2)) false (rs2 T p1 p2).cursor.sty),top:=0,bot:=(rs2 T p1 p2).grid.h}:TS) j k (.slice n p q) (.slice r s v))) bD (by kernel_rfl)) (by simp only[a1,jO,k9]),bE,bF⟩ a (ha.kp [0,9,77,78,79]))
 obtain⟨bG,aF,bH⟩:=bx;have bI:=G.ch aF (fun h=>A h.symm);refine yD [30,33] fun dr ds R=>?_;have bJ:=zt aF R eZ;have a2:=bI.ch R id;have J:=bG.ch R id;have bK:=bH.ch R id;refine yd (uL 0 26) [] (.l (J.c 2) (.l (J.c 0) (.l (a2.c 0) (.q6 ((rs2 T p1 p2).grid.w-1) (.l (J.c 3) (.l (J.c 0) (.l (a2.c 1) .z)))))))<|ydT (uL 26 4) [] rfl (fun _=>(.q6 ((rs2 T p1 p2).grid.h-1) .z))<|yK 30 (yS J fun dt bL a3=>?_);have bM:=zt bJ a3 (fun i hi (h:i=t)=>h);have bN:=a2.ch a3 (fun h=>A h.symm);have bO:=bK.ch a3 (fun(h:d=t)=>by have:=m.lt;omega);refine q8<|yd [31,32] [] .z<|yK 33 (yS bL fun du bP a4=>?_);have bQ:=zt bM a4 (fun i hi (h:i=t)=>h);have bR:=bN.ch a4 (fun h=>A h.symm);have aG:=bO.ch a4 (fun(h:d=t)=>by have:=m.lt;omega);refine q8<|yDe (nB (nS ?_));refine q7<|yp 2 [] (.q6 1 .z)<|yE (nU (yU1 ?_));refine yx 1<|ys<|yct<|yk<|ys<|qa<|ysr<|yp 3 [] (.i 1 (3) (.l (aG.c 1) .z))<|ye<|qb4 ([(0,pX t),(9,.pointer (some ⟨t,10,none⟩)),(77,.slice (some ⟨d,0,none⟩) 3 3),(78,iX 3),(79,iX 1)]) (fun u=>Blk u t (TS.vals ({(rs2 T p1 p2)with cursor:=(Cur.mk (min ((rs2 T p1 p2).cursor.x:Int) ((rs2 T p1 p2).grid.w-1)) (min (((rs2 T p1 p2).cursor.y-(upI T p2)):Int) ((rs2 T p1 p2).grid.h-1)) ((rs2 T p1 p2).cursor.late&&(((rs2 T p1 p2).cursor.x:Int)==(rs2 T p1 p2).grid.w-1)) (rs2 T p1 p2).cursor.sty),saved:=(Cur.mk (rs2 T p1 p2).saved.x (rs2 T p1 p2).saved.y ((rs2 T p1 p2).saved.late&&(((rs2 T p1 p2).saved.x:Int)==(rs2 T p1 p2).grid.w-1)) (rs2 T p1 p2).saved.sty),top:=0,bot:=(rs2 T p1 p2).grid.h}:TS) j k (.slice n p q) (.slice r s v)) qar/\Ch (· =t) B u/\Blk u d [.pointer (some ⟨t,2,none⟩),.pointer (some ⟨t,10,none⟩),.pointer (some ⟨t,18,none⟩)] 167) (fun dv aH=>?_) (fun u105 bS=>?_)
 ·refine yD [22] fun dw dx S=>?_;have aI:=zt bQ S eZ;have bT:=bR.ch S id;have aJ:=aG.ch S id;have K:=bP.ch S id;refine yd (uL 0 6) [] (.l (K.c 12) .z)<|yv [88] (rY (rs2 T p1 p2).saved.late) (fun a5=>?_) fun a5=>?_
  ·refine yd (uL 6 16) [] (.l (K.c 10) (.l (K.c 0) (.l (bT.c 0) (.q6 ((rs2 T p1 p2).grid.w-1) .z))))<|dkeep [0,9,77,78,79,102,104] (f':=[(0,pX t),(9,.pointer (some ⟨t,10,none⟩)),(77,.slice (some ⟨d,0,none⟩) 3 3),(78,iX 3),(79,iX 1),(102,.bool (((rs2 T p1 p2).saved.x:Int)==((rs2 T p1 p2).grid.w-1))),(104,.pointer (some ⟨t,12,none⟩))])<|yK 22 (yS K fun dy bU aK=>?_);have bV:=zt aI aK (fun i hi (h:i=t)=>h);have bW:=aJ.ch aK (fun(h:d=t)=>by have:=m.lt;omega);refine q8<|yDe (fun a ha=>aH _ ⟨Blk.to (Blk.to (cs':=(TS.vals ({(rs2 T p1 p2)with cursor:=(Cur.mk (min ((rs2 T p1 p2).cursor.x:Int) ((rs2 T p1 p2).grid.w-1)) (min (((rs2 T p1 p2).cursor.y-(upI T p2)):Int) ((rs2 T p1 p2).grid.h-1)) ((rs2 T p1 p2).cursor.late&&(((rs2 T p1 p2).cursor.x:Int)==(rs2 T p1 p2).grid.w-1)) (rs2 T p1 p2).cursor.sty),saved:=(Cur.mk (rs2 T p1 p2).saved.x (rs2 T p1 p2).saved.y (((rs2 T p1 p2).saved.x:Int)==((rs2 T p1 p2).grid.w-1)) (rs2 T p1 p2).saved.sty),top:=0,bot:=(rs2 T p1 p2).grid.h}:TS) j k (.slice n p q) (.slice r s v))) bU (by kernel_rfl)) (by simp only[a5,jO,k9]),bV,bW⟩ a (ha.kp [0,9,77,78,79]))
  refine yd (uL 6 16) [] .z<|dkeep [0,9,77,78,79,102,104] (f':=[(0,pX t),(9,.pointer (some ⟨t,10,none⟩)),(77,.slice (some ⟨d,0,none⟩) 3 3),(78,iX 3),(79,iX 1),(102,xF),(104,.pointer (some ⟨t,12,none⟩))])<|yK 22 (yS K fun dz bX aL=>?_);have bY:=zt aI aL (fun i hi (h:i=t)=>h);have bZ:=aJ.ch aL (fun(h:d=t)=>by have:=m.lt;omega);refine q8<|yDe (fun a ha=>aH _ ⟨Blk.to (Blk.to (cs':=(TS.vals ({(rs2 T p1 p2)with cursor:=(Cur.mk (min ((rs2 T p1 p2).cursor.x:Int) ((rs2 T p1 p2).grid.w-1)) (min (((rs2 T p1 p2).cursor.y-(upI T p2)):Int) ((rs2 T p1 p2).grid.h-1)) ((rs2 T p1 p2).cursor.late&&(((rs2 T p1 p2).cursor.x:Int)==(rs2 T p1 p2).grid.w-1)) (rs2 T p1 p2).cursor.sty),saved:=(Cur.mk (rs2 T p1 p2).saved.x (rs2 T p1 p2).saved.y false (rs2 T p1 p2).saved.sty),top:=0,bot:=(rs2 T p1 p2).grid.h}:TS) j k (.slice n p q) (.slice r s v))) bX (by kernel_rfl)) (by simp only[a5,jO,k9]),bY,bZ⟩ a (ha.kp [0,9,77,78,79]))
 obtain⟨c0,aM,c1⟩:=bS;have c2:=G.ch aM (fun h=>A h.symm);refine yD [30,33] fun dA dB U=>?_;have c3:=zt aM U eZ;have a6:=c2.ch U id;have c4:=c1.ch U id;have L:=c0.ch U id;refine yd (uL 0 26) [] (.l (L.c 10) (.l (L.c 0) (.l (a6.c 0) (.q6 ((rs2 T p1 p2).grid.w-1) (.l (L.c 11) (.l (L.c 0) (.l (a6.c 1) .z)))))))<|dkeep [0,77,78,79,105,106,119,123,130] (f':=[(0,pX t),(77,.slice (some ⟨d,0,none⟩) 3 3),(78,iX 3),(79,iX 1),(105,.pointer (some ⟨t,10,none⟩)),(106,.pointer (some ⟨t,10,none⟩)),(119,iX (min ((rs2 T p1 p2).saved.x:Int) ((rs2 T p1 p2).grid.w-1))),(123,iX (rs2 T p1 p2).saved.y),(130,iX (rs2 T p1 p2).grid.h)])<|ydT (uL 26 4) [] rfl (fun _=>(.q6 ((rs2 T p1 p2).grid.h-1) .z))<|yK 30 (yS L fun dC c5 a7=>?_);have c6:=zt c3 a7 (fun i hi (h:i=t)=>h);have c7:=a6.ch a7 (fun h=>A h.symm);have c8:=c4.ch a7 (fun(h:d=t)=>by have:=m.lt;omega);refine q8<|yd [31,32] [] .z<|yK 33 (yS c5 fun dD c9 a8=>?_);have ca:=zt c6 a8 (fun i hi (h:i=t)=>h);have cb:=c7.ch a8 (fun h=>A h.symm);have aN:=c8.ch a8 (fun(h:d=t)=>by have:=m.lt;omega);refine q8<|yDe (nB (nS ?_));refine q7<|yp 2 [] (.q6 2 .z)<|yE (nU (yU1 ?_));refine yx 1<|ys<|yct<|yk<|ys<|qa<|ysr<|yp 3 [] (.i 2 (3) (.l (aN.c 2) .z))<|ye<|qb4 ([(0,pX t),(9,.pointer (some ⟨t,18,none⟩)),(77,.slice (some ⟨d,0,none⟩) 3 3),(78,iX 3),(79,iX 2)]) (fun u=>Blk u t (TS.vals ({(rs2 T p1 p2)with cursor:=(Cur.mk (min ((rs2 T p1 p2).cursor.x:Int) ((rs2 T p1 p2).grid.w-1)) (min (((rs2 T p1 p2).cursor.y-(upI T p2)):Int) ((rs2 T p1 p2).grid.h-1)) ((rs2 T p1 p2).cursor.late&&(((rs2 T p1 p2).cursor.x:Int)==(rs2 T p1 p2).grid.w-1)) (rs2 T p1 p2).cursor.sty),saved:=(Cur.mk (min ((rs2 T p1 p2).saved.x:Int) ((rs2 T p1 p2).grid.w-1)) (min ((rs2 T p1 p2).saved.y:Int) ((rs2 T p1 p2).grid.h-1)) ((rs2 T p1 p2).saved.late&&(((rs2 T p1 p2).saved.x:Int)==(rs2 T p1 p2).grid.w-1)) (rs2 T p1 p2).saved.sty),away:=(Cur.mk (rs2 T p1 p2).away.x (rs2 T p1 p2).away.y ((rs2 T p1 p2).away.late&&(((rs2 T p1 p2).away.x:Int)==(rs2 T p1 p2).grid.w-1)) (rs2 T p1 p2).away.sty),top:=0,bot:=(rs2 T p1 p2).grid.h}:TS) j k (.slice n p q) (.slice r s v)) qar/\Ch (· =t) B u/\Blk u d [.pointer (some ⟨t,2,none⟩),.pointer (some ⟨t,10,none⟩),.pointer (some ⟨t,18,none⟩)] 167) (fun dE aO=>?_) (fun u156 cc=>?_)
 ·refine yD [22] fun dF dG V=>?_;have aP:=zt ca V eZ;have cd:=cb.ch V id;have aQ:=aN.ch V id;have M:=c9.ch V id;refine yd (uL 0 6) [] (.l (M.c 20) .z)<|yv [88] (rY (rs2 T p1 p2).away.late) (fun a9=>?_) fun a9=>?_
  ·refine yd (uL 6 16) [] (.l (M.c 18) (.l (M.c 0) (.l (cd.c 0) (.q6 ((rs2 T p1 p2).grid.w-1) .z))))<|yK 22 (yS M fun dH ce aR=>?_);have cf:=zt aP aR (fun i hi (h:i=t)=>h);have cg:=aQ.ch aR (fun(h:d=t)=>by have:=m.lt;omega);refine q8<|yDe (fun a ha=>aO _ ⟨Blk.to (Blk.to (cs':=(TS.vals ({(rs2 T p1 p2)with cursor:=(Cur.mk (min ((rs2 T p1 p2).cursor.x:Int) ((rs2 T p1 p2).grid.w-1)) (min (((rs2 T p1 p2).cursor.y-(upI T p2)):Int) ((rs2 T p1 p2).grid.h-1)) ((rs2 T p1 p2).cursor.late&&(((rs2 T p1 p2).cursor.x:Int)==(rs2 T p1 p2).grid.w-1)) (rs2 T p1 p2).cursor.sty),saved:=(Cur.mk (min ((rs2 T p1 p2).saved.x:Int) ((rs2 T p1 p2).grid.w-1)) (min ((rs2 T p1 p2).saved.y:Int) ((rs2 T p1 p2).grid.h-1)) ((rs2 T p1 p2).saved.late&&(((rs2 T p1 p2).saved.x:Int)==(rs2 T p1 p2).grid.w-1)) (rs2 T p1 p2).saved.sty),away:=(Cur.mk (rs2 T p1 p2).away.x (rs2 T p1 p2).away.y (((rs2 T p1 p2).away.x:Int)==((rs2 T p1 p2).grid.w-1)) (rs2 T p1 p2).away.sty),top:=0,bot:=(rs2 T p1 p2).grid.h}:TS) j k (.slice n p q) (.slice r s v))) ce (by kernel_rfl)) (by simp only[a9,jO,k9]),cf,cg⟩ a (ha.kp [0,9,77,78,79]))
  refine yd (uL 6 16) [] .z<|yK 22 (yS M fun dI ci aS=>?_);have cj:=zt aP aS (fun i hi (h:i=t)=>h);have ck:=aQ.ch aS (fun(h:d=t)=>by have:=m.lt;omega);refine q8<|yDe (fun a ha=>aO _ ⟨Blk.to (Blk.to (cs':=(TS.vals ({(rs2 T p1 p2)with cursor:=(Cur.mk (min ((rs2 T p1 p2).cursor.x:Int) ((rs2 T p1 p2).grid.w-1)) (min (((rs2 T p1 p2).cursor.y-(upI T p2)):Int) ((rs2 T p1 p2).grid.h-1)) ((rs2 T p1 p2).cursor.late&&(((rs2 T p1 p2).cursor.x:Int)==(rs2 T p1 p2).grid.w-1)) (rs2 T p1 p2).cursor.sty),saved:=(Cur.mk (min ((rs2 T p1 p2).saved.x:Int) ((rs2 T p1 p2).grid.w-1)) (min ((rs2 T p1 p2).saved.y:Int) ((rs2 T p1 p2).grid.h-1)) ((rs2 T p1 p2).saved.late&&(((rs2 T p1 p2).saved.x:Int)==(rs2 T p1 p2).grid.w-1)) (rs2 T p1 p2).saved.sty),away:=(Cur.mk (rs2 T p1 p2).away.x (rs2 T p1 p2).away.y false (rs2 T p1 p2).away.sty),top:=0,bot:=(rs2 T p1 p2).grid.h}:TS) j k (.slice n p q) (.slice r s v))) ci (by kernel_rfl)) (by simp only[a9,jO,k9]),cj,ck⟩ a (ha.kp [0,9,77,78,79]))
 obtain⟨cl,aT,dJ⟩:=cc;have cm:=G.ch aT (fun h=>A h.symm);refine yD [30,33] fun dK dL aa=>?_;have cn:=zt aT aa eZ;have aU:=cm.ch aa id;have N:=cl.ch aa id;refine yd (uL 0 26) [] (.l (N.c 18) (.l (N.c 0) (.l (aU.c 0) (.q6 ((rs2 T p1 p2).grid.w-1) (.l (N.c 19) (.l (N.c 0) (.l (aU.c 1) .z)))))))<|ydT (uL 26 4) [] rfl (fun _=>(.q6 ((rs2 T p1 p2).grid.h-1) .z))<|yK 30 (yS N fun dM co cp=>?_);have cq:=zt cn cp (fun i hi (h:i=t)=>h);refine q8<|yd [31,32] [] .z<|yK 33 (yS co fun ab cr cs=>?_);have ac:=zt cq cs (fun i hi (h:i=t)=>h);refine q8<|yDe (nB (nS ?_));refine q7<|yp 2 [] (.q6 3 .z)<|yE (nU (yU1 ?_));refine yx 1<|ys<|ycf<|qm (eS (qd (qb (qW ?_))));have ct:=D.scalar (T':=({(rs2 T p1 p2)with cursor:=(Cur.mk (min ((rs2 T p1 p2).cursor.x:Int) ((rs2 T p1 p2).grid.w-1)) (min (((rs2 T p1 p2).cursor.y-(upI T p2)):Int) ((rs2 T p1 p2).grid.h-1)) ((rs2 T p1 p2).cursor.late&&(((rs2 T p1 p2).cursor.x:Int)==(rs2 T p1 p2).grid.w-1)) (rs2 T p1 p2).cursor.sty),saved:=(Cur.mk (min ((rs2 T p1 p2).saved.x:Int) ((rs2 T p1 p2).grid.w-1)) (min ((rs2 T p1 p2).saved.y:Int) ((rs2 T p1 p2).grid.h-1)) ((rs2 T p1 p2).saved.late&&(((rs2 T p1 p2).saved.x:Int)==(rs2 T p1 p2).grid.w-1)) (rs2 T p1 p2).saved.sty),away:=(Cur.mk (min ((rs2 T p1 p2).away.x:Int) ((rs2 T p1 p2).grid.w-1)) (min ((rs2 T p1 p2).away.y:Int) ((rs2 T p1 p2).grid.h-1)) ((rs2 T p1 p2).away.late&&(((rs2 T p1 p2).away.x:Int)==(rs2 T p1 p2).grid.w-1)) (rs2 T p1 p2).away.sty),top:=0,bot:=(rs2 T p1 p2).grid.h}:TS)) ac (Blk.to cr (by kernel_rfl)) rfl rfl rfl rfl
 have dN:=am.size;have dO:=ao.size;have dP:=zzs ac;have aV:Ch F w ab:=zt bh ac (fun i _ h=>h▸aW);exact⟨rfl,TermAt.eq' (show TermAt ab t _ (more F w ab)from⟨_,_,_,_,_,_,_,_,_,_,_,_,ct.mono (fun b hb=>hb.elim (fun h=>h.elim .inl (fun h=> .inr ⟨h.1,by omega⟩)) (fun h=> .inr ⟨by omega,by omega⟩)) (hI.moreOk aV.size)⟩) rfl,aV⟩
structure Stp where
 text:ByteArray
 w:Int
 h:Int
def stp0:Stp:=⟨ByteArray.empty,0,0⟩
def Stp.vals (x:Stp):List Value:=[.string x.text,.int .i64 x.w,.int .i64 x.h]
def flatS:List Stp->List Value
 |[]=>[]
 |x::l=>x.vals++flatS l
def gs (l:List Stp)(k:Nat):Stp:=l.getD k stp0
def doT (T:TS)(x:Stp):TS:=if x.w=0/\x.h=0 then qhN T x.text else qd2 T x.w x.h
def doN (T:TS)(l:List Stp):Nat->TS
 |0=>T
 |k+1=>doT (doN T l k) (gs l k)
theorem qkZ {T:TS}(h:Fine T)(p1 p2:Int):Fine (qd2 T p1 p2):=by
 obtain⟨⟨W,H,h⟩,hp⟩:=h;exact⟨⟨_,_,qhQ h p1 p2⟩,by rw[qeT];exact hp⟩
theorem fine_do {T:TS}(h:Fine T)(x:Stp):Fine (doT T x):=by
 unfold doT;split
 ·exact qnp h _
 ·exact qkZ h _ _
def qb6 (l:List Cel):Bool:=(List.range l.length).all fun i=>if(gc l (i:Int)).rune=0 then qZ l ((i:Int)-1)else qkE (gc l (i:Int))&&(!qb1 (gc l (i:Int)).rune||qZ l (i:Int))
def celO (c:Cel):Prop:=qD c.sty=true/\(c.rune=0\/qbP c.rune=true)
def okS (l:List Cel):Prop:= ∀c∈l,celO c
def okC (l:List Cel):Prop:=okS l/\qb6 l=true
theorem qdf {l:List Cel}{i:Nat}(h:i<l.length):gc l (i:Int)=l[i]:=by simp[gc,List.getD,h]
theorem gc_mem {l:List Cel}{i:Nat}(h:i<l.length):gc l (i:Int)∈l:=by rw[qdf h];exact jG h
theorem wholeB_iff {l:List Cel}:qb6 l=true↔ ∀i:Nat,i<l.length->((gc l (i:Int)).rune=0->qZ l ((i:Int)-1)=true)/\((gc l (i:Int)).rune≠0->qkE (gc l (i:Int))=true/\(qb1 (gc l (i:Int)).rune=true->qZ l (i:Int)=true)):=by
 unfold qb6;rw[j3];refine⟨fun h i hi=>?_,fun h i hi=>?_⟩
 ·have:=h i (jz.2 hi)
  split at this
  ·rename_i a;exact⟨fun _=>this,fun h=>absurd a h⟩
  ·rename_i a
   rw[ii,jx,ju]at this;exact⟨fun h=>absurd h a,fun _=>⟨this.1,fun hw=>this.2.elim (fun h=>by rw[h]at hw;cases hw) id⟩⟩
 ·have:=h i (jz.1 hi)
  split
  ·rename_i a;exact this.1 a
  ·rename_i a
   rw[ii,jx,ju];refine⟨(this.2 a).1,?_⟩;cases hw:qb1 (gc l (i:Int)).rune with
   |false=>exact .inl rfl
   |true=>exact .inr ((this.2 a).2 hw)
theorem qjP (l:List Cel):∀k,k<=l.length-> ∀i:Nat,i<l.length->gc (qbw l k) (i:Int)=if i<k then qea l (i:Int)else gc l (i:Int)
 |0,_,i,_=>by rw[if_neg (j0 i)];rfl
 |k+1,hk,i,hi=>by
  have ih:=qjP l k (by omega) i hi
  have hl:=qba l k
  rw[qbw,qdf (by rw[iR,hl];exact hi),List.getElem_set]
  split
  ·rename_i e;subst e;rw[if_pos (by omega)]
  ·rename_i e
   rw[qdf (by rw[hl];exact hi)]at ih
   rw[ih]
   by_cases h:i<k
   ·rw[if_pos h,if_pos (by omega)]
   ·rw[if_neg h,if_neg (by omega)]
theorem qiH (l:List Cel){i:Nat}(hi:i<l.length):gc (qew l) (i:Int)=qea l (i:Int):=by
 unfold qew;rw[qjP l _ (iE _) i hi,if_pos hi]
theorem wide0:qb1 0=false:=by decide+kernel
theorem qp7:qb1 32=false:=by decide+kernel
theorem qgD:qbP 32=true:=by decide+kernel
theorem pairedB_iff {l:List Cel}{i:Int}:qZ l i=true↔0<=i/\i+1<(l.length:Nat)/\qb1 (gc l i).rune=true/\gc l (i+1)=⟨0,(gc l i).sty⟩:=by
 unfold qZ;simp only[ii,ip,iU];constructor
 ·rintro ⟨⟨⟨a,b⟩,c⟩,d⟩;exact⟨a,b,c,d⟩
 ·rintro ⟨a,b,c,d⟩;exact⟨⟨⟨a,b⟩,c⟩,d⟩
theorem qhR {l:List Cel}{i:Int}(h1:(gc l i).rune=0->qZ l (i-1)=true)(h2:qb1 (gc l i).rune=true->qZ l i=true):qea l i=gc l i:=by
 unfold qea;rw[if_neg];intro h;simp only[jx,ii,ip,ju]at h;rcases h with h|h
 ·rw[h1 h.1]at h;cases h.2
 ·rw[h2 h.1]at h;cases h.2
theorem qgE (l:List Cel)(i:Int):qea l i=⟨32,(gc l i).sty⟩\/(qea l i=gc l i/\((gc l i).rune=0->qZ l (i-1)=true)/\(qb1 (gc l i).rune=true->qZ l i=true)):=by
 unfold qea;split
 ·exact .inl rfl
 ·rename_i h
  simp only[jx,ii,ip,ju,not_or,not_and]at h;exact .inr ⟨rfl,fun a=>by simpa using h.1 a,fun hw=>by simpa using h.2 hw⟩
theorem qgF {l:List Cel}{i:Int}(h:qZ l i=true):qZ (qew l) i=true:=by
 obtain⟨b,f,a,c⟩:=pairedB_iff.1 h;obtain⟨k,rfl⟩:=Int.eq_ofNat_of_zero_le b;have d:gc (qew l) (k:Int)=gc l (k:Int):=by
  rw[qiH l (by omega)];exact qhR (fun h=>by rw[h,wide0]at a;cases a) (fun _=>h)
 have g:gc (qew l) ((k:Int)+1)=gc l ((k:Int)+1):=by
  have e:(k:Int)+1=((k+1:Nat):Int):=by omega
  rw[e,qiH l (by omega),<-e];refine qhR (fun _=>?_) (fun hw=>?_)
  ·rw[show(k:Int)+1-1=(k:Int) by omega];exact h
  ·rw[c,wide0]at hw;cases hw
 refine pairedB_iff.2 ⟨b,by rw[qaH];exact f,by rw[d];exact a,by rw[g,d];exact c⟩
theorem ql0 {l:List Cel}(h:okS l):okC (qew l):=by
 have a:∀i:Nat,i<l.length->celO (qea l (i:Int)):=fun i hi=>by
  have hc:=h _ (gc_mem hi);rcases qgE l (i:Int)with e|⟨e,_⟩
  ·rw[e];exact⟨hc.1,.inr qgD⟩
  ·rw[e];exact hc
 refine⟨fun c hc=>?_,wholeB_iff.2 fun i hi=>?_⟩
 ·obtain⟨i,hi,rfl⟩:=List.mem_iff_getElem.1 hc
  rw[qaH]at hi;have:=a i hi;rwa[<-qiH l hi,qdf (by rw[qaH];exact hi)]at this
 ·rw[qaH]at hi
  rw[qiH l hi];have hc:=a i hi;rcases qgE l (i:Int)with e|⟨e,b,d⟩
  ·rw[e]
   refine⟨fun h=>(by cases h),fun _=>⟨?_,fun hw=>by rw[qp7]at hw;cases hw⟩⟩;rw[e]at hc;unfold qkE;rw[hc.1,k6];exact qgD
  ·rw[e]at hc⊢
   refine⟨fun h=>qgF (b h),fun h=>⟨?_,fun hw=>qgF (d hw)⟩⟩;unfold qkE;rw[hc.1,hc.2.resolve_left h];rfl
theorem ql1 {l m:List Cel}(h:okS l)(hm:∀c∈m,c∈l):okS m:=fun c hc=>h c (hm c hc)
theorem qiI {l:List Cel}(h:okS l){i:Nat}{c:Cel}(hc:celO c):okS (l.set i c):=fun d hd=>by
 rcases jp hd with hd|rfl
 ·exact h d hd
 ·exact hc
theorem qcP {s:Sty}(h:qD s=true):celO (qB s):=by
 refine⟨?_,.inr qgD⟩;unfold qD at*;simp only[ii,ip]at*;exact⟨⟨⟨Int.le_refl _,(by show(0:Int)<=8;decide)⟩,h.1.2⟩,h.2⟩
theorem qdu:qD qdd=true:=by decide
theorem qdv (n:Nat){s:Sty}(h:qD s=true):okC (List.replicate n (qB s)):=by
 refine⟨fun c hc=>by rw[jC hc];exact qcP h,wholeB_iff.2 fun i hi=>?_⟩;rw[iu]at hi;have e:gc (List.replicate n (qB s)) (i:Int)=qB s:=by rw[qdf (by rw[iu];exact hi)];simp
 rw[e];refine⟨fun h=>(by cases h),fun _=>⟨?_,fun hw=>?_⟩⟩
 ·unfold qkE;rw[(qcP h).1,k6];exact qgD
 ·have hw:qb1 32=true:=hw
  rw[qp7]at hw;cases hw
theorem putL_ok {W:Int}{l:List Cel}{x:Int}{c:Cel}(h:okS l)(hc:qkE c=true):okS (putL W l x c):=by
 unfold qkE at hc;rw[ii]at hc;unfold putL;split
 ·exact qiI (qiI h ⟨hc.2,.inr hc.1⟩) ⟨hc.2,.inl rfl⟩
 ·exact qiI h ⟨hc.2,.inr hc.1⟩
theorem qm1 {l:List Cel}{a:Int}{c:Cel}(h:okS l)(hc:celO c):∀k,okS (qfQ l a c k)
 |0=>h
 |k+1=>qiI (qm1 h hc k) hc
theorem openL_ok {l:List Cel}{x n:Int}(h:okS l):okS (qhi l x n):=ql1 h fun c hc=>by
 unfold qhi at hc
 rcases iD.1 hc with hc|hc
 ·rcases iD.1 hc with hc|hc
  ·exact iS hc
  ·exact iW (iS hc)
 ·exact iW hc
theorem shutL_ok {l:List Cel}{x n:Int}(h:okS l):okS (qhj l x n):=ql1 h fun c hc=>by
 unfold qhj at hc
 rcases iD.1 hc with hc|hc
 ·rcases iD.1 hc with hc|hc
  ·exact iS hc
  ·exact iW (iS hc)
 ·exact iW hc
theorem qm2 {l m:List Cel}{i:Nat}(h:i<l.length):gc (l++m) (i:Int)=gc l (i:Int):=by
 rw[qdf (by rw[hJ];omega),qdf h,kw h]
theorem qhS {l m:List Cel}{i:Int}(h:qZ l i=true):qZ (l++m) i=true:=by
 obtain⟨a,d,b,c⟩:=pairedB_iff.1 h;obtain⟨k,rfl⟩:=Int.eq_ofNat_of_zero_le a;have e:(k:Int)+1=((k+1:Nat):Int):=by omega
 refine pairedB_iff.2 ⟨a,by rw[hJ];omega,by rw[qm2 (by omega)];exact b,?_⟩;rw[e,qm2 (by omega),qm2 (by omega),<-e];exact c
theorem okC_app {l:List Cel}(h:okC l)(n:Nat):okC (l++List.replicate n (qB qdd)):=by
 refine⟨fun c hc=>(iD.1 hc).elim (h.1 c) fun hc=>by rw[jC hc];exact qcP qdu,wholeB_iff.2 fun i hi=>?_⟩;by_cases hl:i<l.length
 ·have:=wholeB_iff.1 h.2 i hl
  rw[qm2 hl];exact⟨fun a=>qhS (this.1 a),fun a=>⟨(this.2 a).1,fun hw=>qhS ((this.2 a).2 hw)⟩⟩
 ·have e:gc (l++List.replicate n (qB qdd)) (i:Int)=qB qdd:=by
   rw[qdf hi,kv (by omega)];simp
  rw[e];refine⟨fun h=>(by cases h),fun _=>⟨?_,fun hw=>?_⟩⟩
  ·unfold qkE;rw[(qcP qdu).1,k6];exact qgD
  ·have hw:qb1 32=true:=hw
   rw[qp7]at hw;cases hw
theorem fitL_ok {l:List Cel}(h:okC l)(w:Int):okC (qlM l w):=by
 unfold qlM;split
 ·exact ql0 (ql1 h.1 fun c hc=>iS hc)
 ·exact okC_app h _
def okG (G:Gr):Prop:= ∀l∈G.lines,okC l
theorem qga {G:Gr}(h:okG G)(y:Int):okS (gl G y):=by
 unfold gl;rw[ik];cases e:G.lines[y.toNat]? with
 |none=>intro c hc;cases hc
 |some l=>exact(h l (jD e)).1
theorem qp8 {G:Gr}(h:okG G)(y:Int){l:List Cel}(hl:okC l):okG (qfg G y l):=fun m hm=>by
 rcases jp hm with hm|rfl
 ·exact h m hm
 ·exact hl
theorem okG_put {G:Gr}(h:okG G)(x y:Int)(c:Cel):okG (qjl G x y c):=by
 unfold qjl;split
 ·rename_i hc;exact qp8 h y (ql0 (putL_ok (qga h y) hc.2))
 ·exact h
theorem qjQ {W:Int}{l:List Cel}{a b:Int}{s:Sty}(h:okS l)(hs:qD s=true):okC (qgp W l a b s):=ql0 (qm1 h (qcP hs) _)
theorem qp9 {G:Gr}(h:okG G)(y a b:Int){s:Sty}(hs:qD s=true):okG (qb3 G y a b s):=by
 unfold qb3;split
 ·exact qp8 h y (qjQ (qga h y) hs)
 ·exact h
theorem okG_set2 {G:Gr}(h:okG G){x y:Int}(ht:qbC G x y=true){l:List Cel}(hl:okS l)(a b:Int){s:Sty}(hs:qD s=true):okG (qb3 (qfg G y l) y a b s):=by
 obtain⟨⟨g,d⟩,i,f⟩:=there_iff.1 ht;unfold qb3;have ht':qbC (qfg G y l) 0 y=true:=there_iff.2 ⟨⟨Int.le_refl _,d⟩,(by show(0:Int)<G.w;omega),f⟩;rw[if_pos ht'];intro m hm;have hm:m∈(G.lines.set y.toNat l).set y.toNat (qgp G.w (gl (qfg G y l) y) a b s):=hm;rw[List.set_set]at hm;rcases jp hm with hm|rfl
 ·exact h m hm
 ·refine qjQ ?_ hs
  unfold gl qfg;rw[ik];cases e:(G.lines.set y.toNat l)[y.toNat]? with
  |none=>intro c hc;cases hc
  |some q=>
   rw[List.getElem?_set]at e;simp only[if_true]at e;split at e
   ·obtain rfl:=ia e;exact hl
   ·cases e
theorem up1_mem {L:List (List Cel)}{t e:Nat}{b l:List Cel}(h:l∈up1 L t e b):l=b\/l∈L:=by
 unfold up1 at h;simp only[iD,iA]at h;rcases h with((h|h)|h)|h
 ·exact .inr (iS h)
 ·exact .inr (iW (iS h))
 ·exact .inl h
 ·exact .inr (iW h)
theorem qpa {L:List (List Cel)}{t e:Nat}{b l:List Cel}(h:l∈qfR L t e b):l=b\/l∈L:=by
 unfold qfR at h;simp only[iD,iA]at h;rcases h with((h|h)|h)|h
 ·exact .inr (iS h)
 ·exact .inl h
 ·exact .inr (iW (iS h))
 ·exact .inr (iW h)
theorem qiJ {t e:Nat}{b l:List Cel}{L:List (List Cel)}:∀k,l∈upN t e b k L->l=b\/l∈L
 |0,h=> .inr h
 |k+1,h=>(up1_mem h).elim .inl (qiJ k)
theorem qgG {t e:Nat}{b l:List Cel}{L:List (List Cel)}:∀k,l∈qmY t e b k L->l=b\/l∈L
 |0,h=> .inr h
 |k+1,h=>(qpa h).elim .inl (qgG k)
theorem okG_up {G:Gr}(h:okG G)(p1 p2 n:Int){s:Sty}(hs:qD s=true):okG (upG G p1 p2 n s):=fun l hl=>(qiJ _ hl).elim (fun e=>e▸qdv _ hs) (h l)
theorem okG_down {G:Gr}(h:okG G)(p1 p2 n:Int){s:Sty}(hs:qD s=true):okG (qeE G p1 p2 n s):=fun l hl=>(qgG _ hl).elim (fun e=>e▸qdv _ hs) (h l)
theorem okG_new (w h:Int):okG (qkF w h):=fun l hl=>by rw[jC hl];exact qdv _ qdu
theorem qnq {G:Gr}(h:okG G)(p1 p2 p3:Int):okG (qeb G p1 p2 p3):=fun l hl=>by
 rcases iD.1 hl with hl|hl
 ·unfold qde at hl
  obtain⟨m,hm,rfl⟩:=j7.1 hl
  exact fitL_ok (h m (iW (iS hm))) _
 ·rw[jC hl];exact qdv _ qdu
theorem qjR {l m:List (List Cel)}{P:List Cel->Prop}(h1:∀x∈l,P x)(h2:∀x∈m,P x):∀x∈qhm l m,P x:=fun x hx=>by
 have:=iW hx
 rcases iD.1 this with h|h
 ·exact h1 x h
 ·exact h2 x h
structure okD (G:Gr):Prop where
 ok:okG G
 len:G.lines.length=G.h.toNat
 wid:∀l∈G.lines,l.length=G.w.toNat
theorem okD.line {G:Gr}(h:okD G){y:Int}(hy:0<=y/\y<G.h):(gl G y).length=G.w.toNat:=by
 have hl:=h.len;have hy':y.toNat<G.lines.length:=by omega
 unfold gl;rw[ik,ig hy'];exact h.wid _ (jG hy')
theorem okD.set {G:Gr}(h:okD G)(y:Int){l:List Cel}(ho:okG (qfg G y l))(hl:l.length=G.w.toNat):okD (qfg G y l):=
 ⟨ho,by show(G.lines.set y.toNat l).length=_;rw[iR];exact h.len,fun m hm=>by
  rcases jp hm with hm|rfl
  ·exact h.wid m hm
  ·exact hl⟩
theorem okD_put {G:Gr}(h:okD G)(x y:Int)(c:Cel):okD (qjl G x y c):=by
 have ho:=okG_put h.ok x y c;unfold qjl at ho⊢;split
 ·rename_i hc
  rw[if_pos hc]at ho;obtain⟨⟨_,a⟩,_,b⟩:=there_iff.1 hc.1;refine h.set y ho ?_;rw[qaH];unfold putL;split<;>simp only[iR]<;>exact h.line ⟨a,b⟩
 ·exact h
theorem qgH {G:Gr}(h:okD G)(y a b:Int){s:Sty}(hs:qD s=true):okD (qb3 G y a b s):=by
 have ho:=qp9 h.ok y a b hs;unfold qb3 at ho⊢;split
 ·rename_i hc
  rw[if_pos hc]at ho;obtain⟨⟨_,c⟩,_,d⟩:=there_iff.1 hc;refine h.set y ho ?_;unfold qgp;rw[qaH,qaB];exact h.line ⟨c,d⟩
 ·exact h
theorem qm3 {G:Gr}(h:okD G){x y:Int}(ht:qbC G x y=true){l:List Cel}(hl:okS l)(hn:l.length=G.w.toNat)(a b:Int){s:Sty}(hs:qD s=true):okD (qb3 (qfg G y l) y a b s):=by
 have ho:=okG_set2 h.ok ht hl a b hs;obtain⟨⟨c,d⟩,e,f⟩:=there_iff.1 ht;have hw:=qbM (qfg G y l) y a b s;refine⟨ho,?_,fun m hm=>?_⟩
 ·rw[hw.2]
  unfold qb3;split
  ·show((G.lines.set y.toNat l).set y.toNat _).length=_
   rw[iR,iR];exact h.len
  ·show(G.lines.set y.toNat l).length=_
   rw[iR];exact h.len
 ·rw[hw.1]
  have hy':y.toNat<G.lines.length:=by have:=h.len;omega
  have hg:(gl (qfg G y l) y).length=G.w.toNat:=by
   unfold gl qfg;rw[ik,jq hy'];exact hn
  unfold qb3 at hm;split at hm
  ·have hm:m∈(G.lines.set y.toNat l).set y.toNat (qgp G.w (gl (qfg G y l) y) a b s):=hm
   rw[List.set_set]at hm;rcases jp hm with hm|rfl
   ·exact h.wid m hm
   ·unfold qgp;rw[qaH,qaB];exact hg
  ·rcases jp hm with hm|rfl
   ·exact h.wid m hm
   ·exact hn
theorem qm4 {G:Gr}(h:okD G)(x y n:Int){s:Sty}(hs:qD s=true):okD (qhk G x y n s):=by
 unfold qhk;split
 ·rename_i ht
  obtain⟨⟨c,a⟩,d,b⟩:=there_iff.1 ht;have hl:=h.line ⟨a,b⟩;refine qm3 h ht (openL_ok (qga h.ok y)) ?_ _ _ hs;unfold qhi;simp only[hJ,im,iG,hl];omega
 ·exact h
theorem okD_shut {G:Gr}(h:okD G)(x y n:Int){s:Sty}(hs:qD s=true):okD (qil G x y n s):=by
 unfold qil;split
 ·rename_i ht
  obtain⟨⟨c,a⟩,d,b⟩:=there_iff.1 ht;have hl:=h.line ⟨a,b⟩;refine qm3 h ht (shutL_ok (qga h.ok y)) ?_ _ _ hs;unfold qhj;simp only[hJ,im,iG,hl];omega
 ·exact h
theorem ql2 {t e:Nat}{b:List Cel}{L:List (List Cel)}:∀k,k=0\/(t<e/\e<=L.length)->(upN t e b k L).length=L.length
 |0,_=>rfl
 |k+1,h=>by
  obtain⟨h1,h2⟩:=h.resolve_left (by omega)
  have ih:=ql2 (b:=b) k (.inr ⟨h1,h2⟩)
  rw[upN,qow h1 (by omega),ih]
theorem qjS {t e:Nat}{b:List Cel}{L:List (List Cel)}:∀k,k=0\/(t<e/\e<=L.length)->(qmY t e b k L).length=L.length
 |0,_=>rfl
 |k+1,h=>by
  obtain⟨h1,h2⟩:=h.resolve_left (by omega)
  have ih:=qjS (b:=b) k (.inr ⟨h1,h2⟩)
  rw[qmY,qjq h1 (by omega),ih]
theorem qpb {G:Gr}(h:okD G)(p1 p2 n:Int):(cntI G p1 p2 n).toNat=0\/((qg2 G p1).toNat<(qg2 G p2).toNat/\(qg2 G p2).toNat<=G.lines.length):=by
 rw[h.len];unfold cntI qg2;omega
theorem qpc {G:Gr}(h:okD G)(p1 p2 n:Int){s:Sty}(hs:qD s=true):okD (upG G p1 p2 n s):=
 ⟨okG_up h.ok p1 p2 n hs,(ql2 _ (qpb h p1 p2 n)).trans h.len,fun l hl=>(qiJ _ hl).elim (fun e=>by rw[e,iu];rfl) (h.wid l)⟩
theorem qm5 {G:Gr}(h:okD G)(p1 p2 n:Int){s:Sty}(hs:qD s=true):okD (qeE G p1 p2 n s):=
 ⟨okG_down h.ok p1 p2 n hs,(qjS _ (qpb h p1 p2 n)).trans h.len,fun l hl=>(qgG _ hl).elim (fun e=>by rw[e,iu];rfl) (h.wid l)⟩
theorem qjT {t e:Nat}{b l:List Cel}{L:List (List Cel)}:∀k,(k=0\/(t<e/\e<=L.length))->l∈qjs t e b k L->l=b\/l∈L
 |0,_,h=>by cases h
 |k+1,hk,h=>by
  obtain⟨h1,h2⟩:=hk.resolve_left (by omega)
  rw[qjs]at h
  rcases iD.1 h with h|h
  ·exact qjT k (.inr ⟨h1,h2⟩) h
  ·have hlen:=ql2 (b:=b) k (.inr ⟨h1,h2⟩)
   rw[iA.1 h,ik,ig (by omega)]
   exact qiJ k (jG _)
def okB (l:List Cel):Prop:=okC l/\l≠[]/\l.length<=60
theorem okB_of {G:Gr}(h:okD G)(hw:1<=G.w/\G.w<=60){l:List Cel}(hl:l∈G.lines):okB l:=⟨h.ok l hl,fun e=>by have:=h.wid l hl;rw[e]at this;simp at this;omega,by have:=h.wid l hl;omega⟩
theorem okD_out {G:Gr}(h:okD G)(hw:1<=G.w/\G.w<=60)(p1 p2 n:Int){s:Sty}(hs:qD s=true):∀l∈outG G p1 p2 n s,okB l:=fun l hl=>by
 rcases qjT _ (qpb h p1 p2 n) hl with rfl|hl
 ·exact⟨qdv _ hs,fun e=>by have:=congrArg List.length e;rw[iu]at this;simp at this;omega,by rw[iu];omega⟩
 ·exact okB_of h hw hl
theorem qpd (w h:Int):okD (qkF w h):=⟨okG_new w h,by show(List.replicate _ _).length=_;rw[iu];rfl,fun l hl=>by rw[jC hl,iu];rfl⟩
theorem qft {G:Gr}(h:okD G)(hh:0<=G.h)(p1 p2 p3:Int):okD (qeb G p1 p2 p3):=by
 refine⟨qnq h.ok p1 p2 p3,?_,fun l hl=>?_⟩
 ·show(qde _ _ _ _++List.replicate _ _).length=(qj p2).toNat
  unfold qde;simp only[hJ,hZ,im,iG,iu,h.len];omega
 ·show l.length=(qj p1).toNat
  have a:1<=qj p1:=by unfold qj;omega
  rcases iD.1 hl with hl|hl
  ·unfold qde at hl
   obtain⟨m,_,rfl⟩:=j7.1 hl;rw[qip (by omega)];omega
  ·rw[jC hl,iu]
theorem qhT {G:Gr}(h:okD G):∀k,okD (qed G k)
 |0=>h
 |k+1=>qgH (qhT h k) _ _ _ qdu
structure Okt (q:Bool)(W H:Int)(T:TS):Prop where
 lim:Lim W H T
 g:okD T.grid
 o:okD T.other
 b:∀l∈T.back,okB l
 cs:qD T.cursor.sty=true
 cl:q=true->T.cursor.late=true->T.cursor.x=W-1
 ss:qD T.saved.sty=true
 sl:T.saved.late=true->T.saved.x=W-1
 ay:qD T.away.sty=true
 al:T.away.late=true->T.away.x=W-1
 ti:T.title.size<=40
section
variable {q:Bool}{W H:Int}{T:TS}
theorem Okt.half (h:Okt q W H T):Okt false W H T:={h with cl:=fun e=>by cases e}
theorem Okt.cur (h:Okt q W H T){p:Bool}{c:Cur}(hc:(0<=c.x/\c.x<W)/\0<=c.y/\c.y<H)(hs:qD c.sty=true)(hl:p=true->c.late=true->c.x=W-1):Okt p W H {T with cursor:=c}:={h with lim:=h.lim.cursor hc,cs:=hs,cl:=hl}
theorem Okt.grid (h:Okt q W H T){G:Gr}(hG:G.w=T.grid.w/\G.h=T.grid.h)(hd:okD G):Okt q W H {T with grid:=G}:={h with lim:=h.lim.grid hG,g:=hd}
theorem Okt.flags (h:Okt q W H T){T':TS}(hl:Lim W H T')(e1:T'.grid=T.grid)(e2:T'.other=T.other)(e3:T'.cursor=T.cursor)(e4:T'.saved=T.saved)(e5:T'.away=T.away)(e8:T'.back=T.back)(e9:T'.title=T.title):Okt q W H T':=
 ⟨hl,by rw[e1];exact h.g,by rw[e2];exact h.o,by rw[e8];exact h.b,by rw[e3];exact h.cs,by rw[e3];exact h.cl,by rw[e4];exact h.ss,by rw[e4];exact h.sl,by rw[e5];exact h.ay,by rw[e5];exact h.al,by rw[e9];exact h.ti⟩
theorem qdw (h:Okt q W H T){p:Bool}(x y:Int):Okt p W H (qe4 T x y):=
 {h with lim:=qc9 h.lim x y,cs:=h.cs,cl:=fun _ e=>by cases e}
theorem qiK (h:Okt q W H T){p:Bool}(x y:Int):Okt p W H (qeG T x y):=by
 unfold qeG;split<;>exact qdw h _ _
theorem qjU (h:Okt q W H T)(n:Int):Okt q W H (qbx T n):=by
 have hl:=qfm h.lim n;have a:=h.lim.g1;have c:=h.lim.wb;unfold qbx at hl⊢;split
 ·rename_i hc
  rw[if_pos hc]at hl;exact{h with lim:=hl,g:=qpc h.g _ _ _ h.cs,b:=qjR h.b (okD_out h.g ⟨by omega,by omega⟩ _ _ _ h.cs)}
 ·exact h.grid ⟨rfl,rfl⟩ (qpc h.g _ _ _ h.cs)
theorem qgI (h:Okt q W H T):Okt q W H (qbv T):=by
 have b:=h.lim.g1;have a:=h.lim.cu;unfold qbv;split
 ·exact qjU h 1
 ·split
  ·exact h.cur ⟨a.1,by dsimp only;omega,by dsimp only;omega⟩ h.cs h.cl
  ·exact h
theorem ok_up (h:Okt q W H T):Okt q W H (upT T):=by
 have a:=h.lim.cu;unfold upT;split
 ·exact h.grid (G:=qeE T.grid T.top T.bot 1 T.cursor.sty) ⟨rfl,rfl⟩ (qm5 h.g _ _ _ h.cs)
 ·split
  ·exact h.cur ⟨a.1,by dsimp only;omega,by dsimp only;omega⟩ h.cs h.cl
  ·exact h
theorem ql3 (h:Okt q W H T):Okt true W H (qbi T false):=h.cur h.lim.cu h.cs (fun _ e=>by cases e)
theorem ok_print (h:Okt q W H T)(r:Int):Okt true W H (qeH T r):=by
 have c:=h.lim.g1;have d:=h.lim.wb;have hn:=qfn T r (by omega);have hA:Okt false W H (qbR T):=by
  have b:=h.lim.cu;unfold qbR;split
  ·exact qgI (h.cur ⟨⟨by dsimp only;omega,by dsimp only;omega⟩,b.2⟩ h.cs (fun e=>by cases e))
  ·exact h.half
 have hB:Okt false W H (qbD (qbR T) (qa5 T r).2):=by
  have c:=hA.lim.g1;have b:=hA.lim.cu;unfold qbD;split
  ·split
   ·exact qgI (hA.cur ⟨⟨by dsimp only;omega,by dsimp only;omega⟩,b.2⟩ hA.cs (fun e=>by cases e))
   ·exact hA.cur ⟨⟨by dsimp only;omega,by dsimp only;omega⟩,b.2⟩ hA.cs (fun e=>by cases e)
  ·exact hA
 have hC:Okt false W H (qc5 (qbD (qbR T) (qa5 T r).2) (qa5 T r).2):=by
  unfold qc5;split
  ·exact hB.grid (qis _ _ _ _ _) (qm4 hB.g _ _ _ hB.cs)
  ·exact hB
 have hD:Okt false W H (qfJ (qc5 (qbD (qbR T) (qa5 T r).2) (qa5 T r).2) (qa5 T r).1):=hC.grid (putG_w _ _ _ _) (okD_put hC.g _ _ _);have a:=qjA h.lim r;unfold qeH at a⊢;generalize (qfJ (qc5 (qbD (qbR T) (qa5 T r).2) (qa5 T r).2) (qa5 T r).1)=U at hD a;have hg:=hD.lim.g1;unfold qgr at a⊢;split
 ·rename_i hc
  rw[if_pos hc]at a;exact{hD with lim:=a,cs:=hD.cs,cl:=fun _ _=>by show U.grid.w-1=W-1;omega}
 ·rename_i hc
  rw[if_neg hc]at a;exact{hD with lim:=a,cs:=hD.cs,cl:=fun _ e=>by cases e}
theorem ok_exec (h:Okt true W H T)(c:Int):Okt true W H (qdp T c):=by
 have hl:=qlR h.lim c;unfold qdp at hl⊢
 repeat' split
 all_goals first|exact qdw h _ _|exact ql3 (qgI h)|exact{h with lim:=h.lim.flags rfl rfl rfl rfl rfl rfl rfl rfl rfl}|exact h
theorem ok_tell (h:Okt true W H T)(c k:Int):Okt true W H (qcN T c k):=by
 refine h.flags (qlW h.lim c k) ?_ ?_ ?_ ?_ ?_ ?_ ?_
 all_goals
  unfold qcN qe8
  repeat' split
  all_goals rfl
theorem ok_clear (h:Okt true W H T)(y a b:Int){s:Sty}(hs:qD s=true):Okt true W H (qcO T y a b s):=h.grid (qbM _ _ _ _ _) (qgH h.g _ _ _ hs)
theorem qpe (h:Okt true W H T)(k x y:Int){s:Sty}(hs:qD s=true)(i:Int):Okt true W H (qbf T k x y s i):=by
 unfold qbf
 repeat' split
 all_goals first|exact ok_clear h _ _ _ hs|exact h
theorem qpf (h:Okt true W H T)(k x y:Int){s:Sty}(hs:qD s=true)(a:Int)(j:Nat):Okt true W H (qeN T k x y s a j):=by
 induction j with
 |zero=>exact h
 |succ j ih=>exact qpe ih _ _ _ hs _
theorem qiL (h:Okt true W H T)(k a b:Int):Okt true W H (qgy T k a b):=qpf h _ _ _ h.cs _ _
theorem qal {c:Prop}[Decidable c]{a b:TS}(h1:c->Okt true W H a)(h2:¬c->Okt true W H b):Okt true W H (if c then a else b):=by
 split
 ·exact h1 ‹_›
 ·exact h2 ‹_›
theorem ok_edit (h:Okt true W H T)(c n:Int)(l:List Int):Okt true W H (qbo T c n l):=by
 have hd:∀a b n,Okt true W H {T with grid:=qeE T.grid a b n T.cursor.sty}:=fun a b n=>h.grid (G:=qeE T.grid a b n T.cursor.sty) ⟨rfl,rfl⟩ (qm5 h.g _ _ _ h.cs);have hu:∀a b n,Okt true W H {T with grid:=upG T.grid a b n T.cursor.sty}:=fun a b n=>h.grid (G:=upG T.grid a b n T.cursor.sty) ⟨rfl,rfl⟩ (qpc h.g _ _ _ h.cs);unfold qbo;refine qal (fun _=>h.grid (qis _ _ _ _ _) (qm4 h.g _ _ _ h.cs)) fun _=>?_;refine qal (fun _=>h.grid (qoG _ _ _ _ _) (okD_shut h.g _ _ _ h.cs)) fun _=>?_;refine qal (fun _=>h.grid (qbM _ _ _ _ _) (qgH h.g _ _ _ h.cs)) fun _=>?_;refine qal (fun _=>qiL h _ _ _) fun _=>?_;refine qal (fun _=>qal (fun _=>qiL (T:={T with back:=[]}) {h with lim:={h.lim with bk:=by simp},b:=fun l hl=>by cases hl} _ _ _) fun _=>qiL h _ _ _) fun _=>?_;refine qal (fun _=>qal (fun _=>hd _ _ _) fun _=>h) fun _=>?_;refine qal (fun _=>qal (fun _=>hu _ _ _) fun _=>h) fun _=>?_;refine qal (fun _=>qjU h _) fun _=>?_;refine qal (fun _=>hd _ _ _) fun _=>?_;exact ok_tell h _ _
theorem qnr {s:Sty}(h:qD s=true)(n:Int):qD (qq s n)=true:=by
 unfold qD at*;simp only[ii,ip]at*;unfold qq
 repeat' split
 all_goals first|exact h|(show(((_:Prop)/\_)/\_)/\_;dsimp only[qdd];omega)
theorem ql4 {s:Sty}(h:qD s=true)(l:List Int):qD (qcu s l)=true:=by
 unfold qcu;generalize (if l=[]then[0]else l)=m
 induction m generalizing s with
 |nil=>exact h
 |cons n m ih=>exact ih (qnr h n)
theorem ok_plain (h:Okt true W H T)(c:Int)(l:List Int):Okt true W H (qax T c l):=by
 have b:=h.lim.g1;have hp:=qdS l 0;unfold qax;refine qal (fun _=>qdw h _ _) fun _=>?_;refine qal (fun _=>qdw h _ _) fun _=>?_;refine qal (fun _=>qdw h _ _) fun _=>?_;refine qal (fun _=>qdw h _ _) fun _=>?_;refine qal (fun _=>qdw h _ _) fun _=>?_;refine qal (fun _=>qiK h _ _) fun _=>?_;refine qal (fun _=>qiK h _ _) fun _=>?_;refine qal (fun _=>h.cur h.lim.cu (ql4 h.cs l) h.cl) fun _=>?_;refine qal (fun _=>qal (fun a=>qiK (q:=true) (h.flags (qhJ h.lim ⟨hp,a,?_⟩) rfl rfl rfl rfl rfl rfl rfl) _ _) fun _=>h) fun _=>ok_edit h _ _ _;split<;>omega
theorem ok_turn (h:Okt true W H T)(b:Bool):Okt true W H (qkW T b):=by
 have hl:=qlX h.lim b;unfold qkW at hl⊢;split
 ·exact h
 ·rename_i hc
  rw[if_neg hc]at hl;split
  ·rename_i hb
   rw[if_pos hb]at hl;exact⟨hl,qhT h.o _,h.g,h.b,h.cs,h.cl,h.ss,h.sl,h.cs,h.cl rfl,h.ti⟩
  ·rename_i hb
   rw[if_neg hb]at hl;exact⟨hl,h.o,h.g,h.b,h.ay,fun _=>h.al,h.ss,h.sl,h.cs,h.cl rfl,h.ti⟩
theorem ok_mode (h:Okt true W H T)(n:Int)(b:Bool):Okt true W H (qbp T n b):=by
 unfold qbp;split
 ·exact qiK (q:=true) (T:={T with origin:=b}) (h.flags (h.lim.flags rfl rfl rfl rfl rfl rfl rfl rfl rfl) rfl rfl rfl rfl rfl rfl rfl) _ _
 split
 ·exact{h with lim:={h.lim.cursor (c:=⟨T.cursor.x,T.cursor.y,T.cursor.late&&b,T.cursor.sty⟩) h.lim.cu with},cs:=h.cs,cl:=fun e a=>h.cl e (by have a:(T.cursor.late&&b)=true:=a;rw[ii]at a;exact a.1)}
 split
 ·exact h.flags (h.lim.flags rfl rfl rfl rfl rfl rfl rfl rfl rfl) rfl rfl rfl rfl rfl rfl rfl
 split
 ·exact ok_turn h b
 ·exact h
theorem ok_modes (h:Okt true W H T)(l:List Int)(b:Bool):Okt true W H (l.foldl (fun T n=>qbp T n b) T):=by
 induction l generalizing T with
 |nil=>exact h
 |cons n l ih=>exact ih (ok_mode h n b)
theorem ok_csi (h:Okt true W H T)(a:Ac):Okt true W H (qlU T a):=by
 unfold qlU;split
 ·exact ok_plain h _ _
 split
 ·exact ok_modes h _ _
 ·exact h
theorem qm6 (T:TS)(w h:Int)(hr:T.reply.size<=400):Okt true (qj w) (qj h) (startT T w h):=
 ⟨qeO T w h hr,qpd w h,qpd w h,fun l hl=>(by cases hl),qdu,fun _ e=>(by cases e),qdu,fun e=>(by cases e),qdu,fun e=>(by cases e),ir _⟩
theorem ok_esc (h:Okt true W H T)(a:Ac):Okt true W H (qhd T a):=by
 have hf:∀{T':TS},Lim W H T'->T'.grid=T.grid->T'.other=T.other->T'.cursor=T.cursor->T'.saved=T.saved->T'.away=T.away->T'.back=T.back->T'.title=T.title->Okt true W H T':=fun hl=>h.flags hl;unfold qhd;refine qal (fun _=>qal (fun _=>hf (h.lim.flags rfl rfl rfl rfl rfl rfl rfl rfl rfl) rfl rfl rfl rfl rfl rfl rfl) fun _=>h) fun _=>?_;refine qal (fun _=>qal (fun _=>hf (h.lim.flags rfl rfl rfl rfl rfl rfl rfl rfl rfl) rfl rfl rfl rfl rfl rfl rfl) fun _=>h) fun _=>?_;refine qal (fun _=>h) fun _=>?_;refine qal (fun _=>{h with lim:={h.lim with sa:=h.lim.cu},ss:=h.cs,sl:=h.cl rfl}) fun _=>?_;refine qal (fun _=>{h with lim:={h.lim with cu:=h.lim.sa},cs:=h.ss,cl:=fun _=>h.sl}) fun _=>?_;refine qal (fun _=>ql3 (qgI h)) fun _=>?_;refine qal (fun _=>qdw (qgI h) _ _) fun _=>?_;refine qal (fun _=>ql3 (ok_up h)) fun _=>?_;refine qal (fun _=>hf (h.lim.flags rfl rfl rfl rfl rfl rfl rfl rfl rfl) rfl rfl rfl rfl rfl rfl rfl) fun _=>?_;refine qal (fun _=>?_) fun _=>h;have:=qm6 T T.grid.w T.grid.h h.lim.rp;rw[h.lim.g1.1,h.lim.g1.2,qg9 h.lim.wb,qg9 h.lim.hb]at this;rw[h.lim.g1.1,h.lim.g1.2];exact this
theorem ok_osc (h:Okt true W H T){a:Ac}(ha:AcOk a):Okt true W H (qlV T a):=by
 unfold qlV;split
 ·exact{h with lim:=h.lim.flags rfl rfl rfl rfl rfl rfl rfl rfl rfl,ti:=by show(a.text.extract _ _).size<=40;rw[k8];have:=ha.t;omega}
 ·exact h
theorem ok_act (h:Okt true W H T){a:Ac}(ha:AcOk a):Okt true W H (qen T a):=by
 unfold qen;split
 ·exact ok_print h _
 split
 ·exact ok_exec h _
 split
 ·exact ok_esc h a
 split
 ·exact ok_csi h a
 split
 ·exact ok_osc h ha
 ·exact h
theorem ok_acts (h:Okt true W H T)(l:List Ac)(hl:∀a∈l,AcOk a):Okt true W H (l.foldl qen T):=by
 induction l generalizing T with
 |nil=>exact h
 |cons a l ih=>exact ih (ok_act h (hl a (jd ..))) fun b hb=>hl b (j6 _ hb)
theorem ok_feed (h:Okt true W H T)(hp:T.parser.lim){c:Int}(hc:0<=c/\c<=255):Okt true W H (qjK T c):=
 ok_acts (T:={T with parser:=(qbn T.parser c).1}) (h.flags (qfs h.lim _) rfl rfl rfl rfl rfl rfl rfl) _ (qiB hp hc).2
theorem qjV (h:Okt true W H T)(hp:T.parser.lim)(s:ByteArray):∀k,Okt true W H (qdt T s k)/\(qdt T s k).parser.lim
 |0=>⟨h,hp⟩
 |k+1=>by
  obtain⟨h1,h2⟩:=qjV h hp s k
  exact⟨ok_feed h1 h2 (qcZ s _),qdU hp s (k+1)⟩
theorem ok_write (h:Okt true W H T)(hp:T.parser.lim)(s:ByteArray):Okt true W H (qhN T s):=(qjV h hp s _).1
end
theorem qiM {c:Cur}{w h:Int}(hw:1<=w):(fixC c w h).late=true->(fixC c w h).x=w-1:=fun e=>by
 have e:(c.late&&((c.x:Int)==w-1))=true:=e
 rw[ii,iU]at e
 show min c.x (w-1)=w-1
 omega
theorem qpg {W H:Int}{T:TS}(h:Okt true W H T)(p1 p2:Int):Okt true (qj p1) (qj p2) (qd2 T p1 p2):=by
 have hl:=qhQ h.lim p1 p2;obtain⟨d,f,i,j,k,m,n⟩:=rs2_f T p1 p2;have p:=h.lim.g1;have r:=h.lim.g2;have hw:=h.lim.wb;have hh:=h.lim.hb;have s:1<=qj p1:=by unfold qj;omega
 have a:okD (rs1 T p1 p2).grid/\(rs1 T p1 p2).other=T.other/\(∀l∈(rs1 T p1 p2).back,okB l)/\(rs1 T p1 p2).title=T.title:=by
  unfold rs1;split
  ·exact⟨qft h.g (by omega) _ _ _,rfl,h.b,rfl⟩
  ·exact⟨qft h.g (by omega) _ _ _,rfl,qjR h.b fun l hl=>okB_of h.g ⟨by omega,by omega⟩ (iS hl),rfl⟩
 have c:(rs2 T p1 p2).grid.w=qj p1:=j;refine⟨hl,a.1,?_,a.2.2.1,?_,fun _ e=>?_,?_,fun e=>?_,?_,fun e=>?_,?_⟩
 ·show okD (qeb (rs1 T p1 p2).other p1 (qjO p2) 0)
  rw[a.2.1];exact qft h.o (by omega) _ _ _
 ·show qD (rs2 T p1 p2).cursor.sty=true;rw[d];exact h.cs
 ·have:=qiM (w:=(rs2 T p1 p2).grid.w) (by omega) e;rw[<-c];exact this
 ·show qD (rs2 T p1 p2).saved.sty=true;rw[f];exact h.ss
 ·have:=qiM (w:=(rs2 T p1 p2).grid.w) (by omega) e;rw[<-c];exact this
 ·show qD (rs2 T p1 p2).away.sty=true;rw[i];exact h.ay
 ·have:=qiM (w:=(rs2 T p1 p2).grid.w) (by omega) e;rw[<-c];exact this
 ·show(rs1 T p1 p2).title.size<=40;rw[a.2.2.2];exact h.ti
theorem ok_do {W H:Int}{T:TS}(h:Okt true W H T)(hp:T.parser.lim)(x:Stp):∃W' H',Okt true W' H' (doT T x):=by
 unfold doT;split
 ·exact⟨W,H,ok_write h hp _⟩
 ·exact⟨_,_,qpg h _ _⟩
def qat (l:List Int):Prop:= ∀x∈l,0<=x/\x<=255
def qhe:Nat->Nat->List Int
 |0,n=>[(n:Int)]
 |f+1,n=>if n<128 then[(n:Int)]else((n % 128+128:Nat):Int)::qhe f (n/128)
abbrev qv (n:Nat):List Int:=qhe 9 n
def qdh:Nat->Nat->List Int->Nat×Nat
 |_,_,[]=>(0,0)
 |i,n,c::r=>
  if(i=9/\1<c)\/9<i then(0,0)
  else if c<128 then(if c=0/\0<i then(0,0)else(n+c.toNat % 128*128^i,i+1))
  else qdh (i+1) (n+c.toNat % 128*128^i) r
abbrev qa6 (l:List Int):Nat×Nat:=qdh 0 0 l
theorem qcd {f n:Nat}(h:n<128):qhe f n=[(n:Int)]:=by
 cases f with
 |zero=>rfl
 |succ f=>rw[qhe,if_pos h]
theorem qdV {f n:Nat}(h:¬n<128):qhe (f+1) n=((n % 128+128:Nat):Int)::qhe f (n/128):=by rw[qhe,if_neg h]
theorem qph (f n:Nat):qhe f n≠[]:=by
 cases f with
 |zero=>exact kf _ _
 |succ f=>rw[qhe];split<;>exact kf _ _
theorem qm7 (m i:Nat):m*128^(i+1)=128*m*128^i:=by
 rw[Nat.pow_succ,Nat.mul_comm 128 m,Nat.mul_assoc,Nat.mul_comm (128^i)]
theorem qns:∀(ys:List Int) (i acc n k:Nat),qat ys->i<=9->qdh i acc ys=(n,k)->k=0\/
  ∃m zs,n=acc+m*128^i/\ys=qhe (9-i) m++zs/\k=i+(qhe (9-i) m).length/\(0<i->0<m)/\m<2^(64-7*i):=by
 intro ys
 induction ys with
 |nil=>
  intro i acc n k _ _ h;rw[qdh]at h;exact .inl (iC h).2.symm
 |cons c r ih=>
  intro i acc n k hb hi h;have hc:=hb c (jd ..);rw[qdh]at h;split at h
  ·exact .inl (iC h).2.symm
  ·rename_i l
   split at h
   ·rename_i d
    split at h
    ·exact .inl (iC h).2.symm
    ·rename_i o
     obtain⟨rfl,rfl⟩:=iC h;have hs:c.toNat<128:=by omega
     refine .inr ⟨c.toNat,r,by rw[jW hs],?_,?_,fun b=>by omega,?_⟩
     ·rw[qcd hs];simp;omega
     ·rw[qcd hs];rfl
     ·rcases iL i 9 with a|a
      ·have:2^8<=2^(64-7*i):=jT (by decide) (by omega)
       omega
      ·obtain rfl:i=9:=by omega
       show c.toNat<2;omega
   ·rename_i d
    have a:i+1<=9:=by omega
    rcases ih (i+1) _ n k (fun x hx=>hb x (j6 _ hx)) a h with b|⟨m,zs,e,f,g,j,p⟩
    ·exact .inl b
    ·have q:=j (Nat.succ_pos i)
     have hm:¬c.toNat % 128+128*m<128:=by omega
     have hf:9-i=(9-(i+1))+1:=by omega
     have hd:(c.toNat % 128+128*m)/128=m:=by omega
     have hr:(c.toNat % 128+128*m)% 128+128=c.toNat:=by omega
     refine .inr ⟨c.toNat % 128+128*m,zs,?_,?_,?_,fun _=>by omega,?_⟩
     ·rw[e,qm7,Nat.add_mul];omega
     ·rw[hf,qdV hm,hd,hr,f]
      simp;omega
     ·rw[hf,qdV hm,hd,g,iz];omega
     ·have:2^(64-7*i)=128*2^(64-7*(i+1)):=by
       rw[show 64-7*i=(64-7*(i+1))+7 by omega,Nat.pow_add];omega
      rw[this];omega
theorem qpi:∀(f i acc m:Nat) (r:List Int),f=9-i->i<=9->m<2^(64-7*i)->(0<i->0<m)->qdh i acc (qhe f m++r)=(acc+m*128^i,i+(qhe f m).length):=by
 intro f
 induction f with
 |zero=>
  intro i acc m r hf hi hm a;obtain rfl:i=9:=by omega
  have b:m<2:=hm;show qdh 9 acc ((m:Int)::r)=_;rw[qdh,if_neg (by omega),if_pos (by omega),if_neg (by omega)];have e:(m:Int).toNat % 128=m:=by omega
  rw[e];rfl
 |succ f ih=>
  intro i acc m r hf hi hm a;by_cases hs:m<128
  ·rw[qcd hs]
   show qdh i acc ((m:Int)::r)=_;rw[qdh,if_neg (by omega),if_pos (by omega),if_neg (by omega)];have e:(m:Int).toNat % 128=m:=by omega
   rw[e];rfl
  ·rw[qdV hs]
   show qdh i acc (((m % 128+128:Nat):Int)::(qhe f (m/128)++r))=_;rw[qdh,if_neg (by omega),if_neg (by omega)];have e:((m % 128+128:Nat):Int).toNat % 128=m % 128:=by omega
   have hp:2^(64-7*i)=128*2^(64-7*(i+1)):=by
    rw[show 64-7*i=(64-7*(i+1))+7 by omega,Nat.pow_add];omega
   rw[ih (i+1) _ (m/128) r (by omega) (by omega) (by rw[hp]at hm;omega) (fun _=>by omega),e,qm7,iz];refine Prod.ext ?_ (by show i+1+_=i+(_+1);omega);show acc+m % 128*128^i+128*(m/128)*128^i=acc+m*128^i;rw[jR,<-Nat.add_mul];congr 2;omega
theorem qjW:∀(f n:Nat),n<128^(f+1)->qat (qhe f n)
 |0,n,h=>fun x hx=>by
  rw[iA.1 hx]
  have:n<128:=h
  omega
 |f+1,n,h=>fun x hx=>by
  by_cases hs:n<128
  ·rw[qcd hs]at hx
   rw[iA.1 hx];omega
  ·rw[qdV hs]at hx
   rcases j9.1 hx with rfl|hx
   ·omega
   ·exact qjW f (n/128) (by rw[Nat.pow_succ]at h;omega) x hx
theorem qhU {ys:List Int}{n k:Nat}(hb:qat ys)(h:qa6 ys=(n,k)):k=0\/(ys=qv n++ys.drop k/\k<=ys.length/\n<2^64):=by
 rcases qns ys 0 0 n k hb (by decide) h with c|⟨m,zs,d,a,b,_,f⟩
 ·exact .inl c
 ·right
  have e:n=m:=by rw[d];simp
  subst e;rw[iJ]at b;refine⟨?_,?_,f⟩
  ·rw[b]
   conv=>rhs;rw[a]
   rw[List.drop_left' rfl];exact a
  ·rw[b,a,hJ];exact Nat.le_add_right _ _
theorem qm8 {ys:List Int}(hb:qat ys):(qa6 ys).2<=ys.length/\(qa6 ys).1<2^64:=by
 rcases qhU hb (rfl:qa6 ys=((qa6 ys).1,(qa6 ys).2))with h|h
 ·refine⟨by rw[h];exact ir _,?_⟩
  have:∀(ys:List Int) (i a:Nat),(qdh i a ys).2=0->(qdh i a ys).1=0:=by
   intro ys
   induction ys with
   |nil=>intro i a _;rfl
   |cons c r ih=>
    intro i a h;rw[qdh]at h⊢;split
    ·rfl
    ·rename_i d
     rw[if_neg d]at h;split
     ·rename_i b
      rw[if_pos b]at h;split
      ·rfl
      ·rename_i e
       rw[if_neg e]at h;cases h
     ·rename_i b
      rw[if_neg b]at h;exact ih _ _ h
  rw[this ys 0 0 h];decide
 ·exact h.2
theorem qjX {n:Nat}(r:List Int)(h:n<2^64):qa6 (qv n++r)=(n,(qv n).length):=by
 have:=qpi 9 0 0 n r rfl (by decide) h (fun h=>by cases h);exact this.trans (by simp)
abbrev RS:=Option (List Int)
def qP (lim:Int):RS->Int×RS
 |none=>(0,none)
 |some ys=>if(qa6 ys).2=0\/9223372036854775807<(qa6 ys).1\/(0<lim/\lim<=((qa6 ys).1:Int))then(0,none)else(((qa6 ys).1:Int),some (ys.drop (qa6 ys).2))
def qbb (most:Int)(s:RS):ByteArray×RS:=
 match qP (if 0<most then most+1 else 1) s with
 |(_,none)=>(E0,none)
 |(n,some ys)=>if(ys.length:Int)<n then(E0,none)else(qf (ys.take n.toNat),some (ys.drop n.toNat))
def qaT (s:ByteArray):List Int:=s.data.toList.map fun b=>(b.toNat:Int)
def qbt (s:ByteArray):List Int:=qv s.size++qaT s
theorem qeU (s:ByteArray):(qaT s).length=s.size:=by simp[qaT]
theorem qgJ (s:ByteArray):qat (qaT s):=fun x hx=>by
 obtain⟨b,_,rfl⟩:=j7.1 hx
 have:=b.toNat_lt
 omega
theorem qcy (l:List Int):(qf l).data.toList=l.map fun n=>UInt8.ofNat n.toNat:=by
 have h:∀(l:List Int) (r:ByteArray),(l.foldl (fun r n=>r.push (UInt8.ofNat n.toNat)) r).data.toList=r.data.toList++l.map fun n=>UInt8.ofNat n.toNat:=by
  intro l
  induction l with
  |nil=>intro r;simp
  |cons c l ih=>intro r;rw[List.foldl_cons,ih];simp[ByteArray.push]
 have:=h l ByteArray.empty;simpa[qf]using this
theorem qgK {l:List Int}(h:qat l):qaT (qf l)=l:=by
 unfold qaT;rw[qcy,jB];refine(jA fun x hx=>?_).trans (List.map_id _);have:=h x hx;show(((UInt8.ofNat x.toNat).toNat:Nat):Int)=x;rw[UInt8.toNat_ofNat_of_lt' (show x.toNat<UInt8.size by show x.toNat<256;omega)];omega
theorem qb7 (l:List Int):(qf l).size=l.length:=by
 have:=congrArg List.length (qcy l);simpa using this
theorem qdx {l:List Int}(h:qat l)(k:Nat):qat (l.drop k):=fun x hx=>h x (iW hx)
theorem qpj {l:List Int}(h:qat l)(k:Nat):qat (l.take k):=fun x hx=>h x (iS hx)
theorem ql {l m:List Int}(h:qat l)(h':qat m):qat (l++m):=fun x hx=>(iD.1 hx).elim (h x) (h' x)
def rsB (s:RS):Prop:= ∀ys,s=some ys->qat ys
theorem qa9 {lim:Int}{s:RS}{n:Int}{zs:List Int}(hs:rsB s)(h:qP lim s=(n,some zs)):∃ys,s=some ys/\ys=qv n.toNat++zs/\0<=n/\n<=9223372036854775807/\(0<lim->n<lim):=by
 cases s with
 |none=>cases h
 |some ys=>
  refine⟨ys,rfl,?_⟩;rw[qP]at h;split at h
  ·cases h
  ·rename_i b
   obtain⟨rfl,e⟩:=iC h;obtain rfl:=ia e;rcases qhU (hs ys rfl) (rfl:qa6 ys=((qa6 ys).1,(qa6 ys).2))with a|⟨a,c,d⟩
   ·exact absurd (.inl a) b
   ·exact⟨by rw[il];exact a,by omega,by omega,fun hl=>by omega⟩
theorem qF {lim:Int}{s:RS}(hs:rsB s):rsB (qP lim s).2:=by
 cases s with
 |none=>exact hs
 |some ys=>
  rw[qP];split
  ·intro ys h;cases h
  ·intro zs h
   obtain rfl:=ia h;exact qdx (hs ys rfl) _
theorem qaa {lim:Int}{s:RS}:0<=(qP lim s).1/\(qP lim s).1<=9223372036854775807/\(0<lim->(qP lim s).1<lim):=by
 cases s with
 |none=>exact⟨Int.le_refl 0,(by decide:(0:Int)<=9223372036854775807),fun h=>h⟩
 |some ys=>
  rw[qP];split
  ·exact⟨Int.le_refl 0,(by decide:(0:Int)<=9223372036854775807),fun h=>h⟩
  ·exact⟨by omega,by omega,fun h=>by omega⟩
theorem qcQ {most:Int}{s:RS}{x:ByteArray}{zs:List Int}(hs:rsB s)(h:qbb most s=(x,some zs))(h0:0<most):∃ys,s=some ys/\ys=qbt x++zs/\(x.size:Int)<=most:=by
 unfold qbb at h;rw[if_pos h0]at h;split at h
 ·cases h
 ·rename_i n ys e
  split at h
  ·cases h
  ·rename_i d
   obtain⟨rfl,b⟩:=iC h;obtain rfl:=ia b;obtain⟨us,rfl,a,f,g,c⟩:=qa9 hs e;have hb:qat ys:=by
    have:=hs us rfl;rw[a]at this;exact fun x hx=>this x (kd _ hx)
   have hz:(qf (ys.take n.toNat)).size=n.toNat:=by rw[qb7,im];omega
   refine⟨us,rfl,?_,by rw[hz];have:=c (by omega);omega⟩;unfold qbt;rw[hz,qgK (qpj hb _),ie,iV];exact a
theorem qdW {most:Int}{s:RS}(hs:rsB s):rsB (qbb most s).2:=by
 unfold qbb;split
 ·intro ys h;cases h
 ·rename_i n ys e
  split
  ·intro ys h;cases h
  ·intro zs h
   obtain rfl:=ia h;have:=qF (lim:=if 0<most then most+1 else 1) hs;rw[e]at this;exact qdx (this ys rfl) _
theorem or64 {a b k:Nat}(ha:a<2^k)(hb:∃c,b=c*2^k)(hs:a+b<2^64):qe .or .u64 (a:Int) (b:Int)=((a+b:Nat):Int):=by
 obtain⟨c,rfl⟩:=hb;have e:(BitVec.ofInt 64 (a:Int)|||BitVec.ofInt 64 ((c*2^k:Nat):Int)).toNat=a+c*2^k:=by
  rw[BitVec.ofInt_natCast,BitVec.ofInt_natCast,BitVec.toNat_or,BitVec.toNat_ofNat,BitVec.toNat_ofNat,jW (by omega),jW (by omega),Nat.or_comm,<-Nat.shiftLeft_eq,<-Nat.shiftLeft_add_eq_or_of_lt ha,Nat.shiftLeft_eq];omega
 show IntKind.wrap .u64 ((BitVec.ofInt 64 (a:Int)|||BitVec.ofInt 64 ((c*2^k:Nat):Int)).toNat:Int)=_;rw[e];exact qbm ⟨by omega,by omega⟩
theorem qpk {n:Nat}(h:n<2^64):IntKind.wrap .u64 (n:Int)=(n:Int):=qbm ⟨by omega,by omega⟩
theorem qpl (i:Nat):2^(7*i)=128^i:=by rw[Nat.pow_mul]
theorem qpm {i:Nat}(h:i<=9):128^i<=128^9:=jT (by decide) h
abbrev orT (n c:Int)(i:Nat):Int:=qe .or .u64 n (IntKind.wrap .u64 (IntKind.wrap .u64 (qe .and .u8 c 127)*2^min (7*(i:Int):Int).toNat (IntKind.bits .u64)))
theorem and127:∀c,c<256->qe .and .u8 (c:Nat) 127=((c % 128:Nat):Int):=by decide+kernel
theorem orT_eq {n i:Nat}{c:Int}(hc:0<=c/\c<=255)(hi:i<=9)(h9:i=9->c<=1)(hn:n<128^i):orT (n:Int) c i=((n+c.toNat % 128*128^i:Nat):Int):=by
 have a:qe .and .u8 c 127=((c.toNat % 128:Nat):Int):=by
  have:=and127 c.toNat (by omega);rwa[j8 hc.1]at this
 have hp:=qpm hi;have hb:c.toNat % 128*128^i<=128^9:=by
  rcases iL i 9 with h|h
  ·have b:128^i<=128^8:=jT (by decide) (by omega)
   calc c.toNat % 128*128^i<=128*128^8:=Nat.mul_le_mul (by omega) b
    _=128^9:=by decide
  ·have:=h9 (by omega)
   calc c.toNat % 128*128^i<=1*128^9:=Nat.mul_le_mul (by omega) hp
    _=128^9:=by decide
 have d:(2:Int)^min (7*(i:Int):Int).toNat (IntKind.bits .u64)=((128^i:Nat):Int):=by
  rw[show min (7*(i:Int):Int).toNat (IntKind.bits .u64)=7*i by show min _ 64=_;omega,<-qpl]
  norm_cast
 have e:(2:Nat)^64=2*128^9:=by decide
 unfold orT;rw[a,qpk (by omega),d,<-Int.natCast_mul,qpk (by omega)];refine or64 (k:=7*i) (by rw[qpl];exact hn) ⟨c.toNat % 128,by rw[qpl]⟩ (by omega)
def qdi:Nat->Int->List Int->Int×Int
 |_,_,[]=>(0,0)
 |i,n,c::r=>
  if(i=9/\1<c)\/9<i then(0,0)
  else if c<128 then(if c=0/\0<i then(0,0)else(orT n c i,(i:Int)+1))
  else qdi (i+1) (orT n c i) r
theorem takeG_eq:∀(ys:List Int) (i n:Nat),qat ys->n<128^i->qdi i (n:Int) ys=(((qdh i n ys).1:Int),((qdh i n ys).2:Int)):=by
 intro ys
 induction ys with
 |nil=>intro i n _ _;rfl
 |cons c r ih=>
  intro i n hb hn;have hc:=hb c (jd ..);rw[qdi,qdh];by_cases a:(i=9/\1<c)\/9<i
  ·rw[if_pos a,if_pos a];rfl
  ·rw[if_neg a,if_neg a,orT_eq hc (by omega) (by omega) hn]
   by_cases b:c<128
   ·rw[if_pos b,if_pos b]
    by_cases d:c=0/\0<i
    ·rw[if_pos d,if_pos d];rfl
    ·rw[if_neg d,if_neg d];simp
   ·rw[if_neg b,if_neg b]
    refine ih (i+1) _ (fun x hx=>hb x (j6 _ hx)) ?_;have:c.toNat % 128*128^i<=127*128^i:=Nat.mul_le_mul_right _ (by omega);rw[Nat.pow_succ];omega
theorem qcE {ys:List Int}(h:qat ys):qdi 0 0 ys=(((qa6 ys).1:Int),((qa6 ys).2:Int)):=takeG_eq ys 0 0 h (by decide)
abbrev shr7 (n:Int):Int:=Int.fdiv n (2^min (7:Int).toNat (IntKind.bits .u64))
abbrev low7 (n:Int):Int:=qe .or .u8 (IntKind.wrap .u8 n) 128
theorem shr7_eq (n:Nat):shr7 (n:Int)=((n/128:Nat):Int):=by
 show Int.fdiv (n:Int) 128=_;rw[jV _ (by decide)];omega
theorem or128:∀c,c<256->qe .or .u8 (c:Nat) 128=((c % 128+128:Nat):Int):=by decide+kernel
theorem wrap8 (n:Nat):IntKind.wrap .u8 (n:Int)=((n % 256:Nat):Int):=by
 simp[IntKind.wrap,IntKind.bits,IntKind.signed]
theorem low7_eq (n:Nat):low7 (n:Int)=((n % 128+128:Nat):Int):=by
 unfold low7;rw[wrap8,or128 _ (Nat.mod_lt _ (by decide)),Nat.mod_mod_of_dvd _ (by decide)]
def qaj (f:Nat->Bool):Nat->Nat
 |0=>0
 |k+1=>qaj f k+if f k=true then 2^k else 0
def lb (l:List Bool)(i:Nat):Bool:=l.getD i false
def qac (l:List Bool):Nat:=qaj (lb l) l.length
theorem qbA (f:Nat->Bool):∀k,qaj f k<2^k
 |0=>Nat.one_pos
 |k+1=>by
  have:=qbA f k
  rw[qaj,Nat.pow_succ]
  split<;>omega
theorem qcz {f g:Nat->Bool}:∀{k:Nat},(∀i,i<k->f i=g i)->qaj f k=qaj g k
 |0,_=>rfl
 |k+1,h=>by rw[qaj,qaj,h k (Nat.lt_succ_self k),qcz fun i hi=>h i (Nat.lt_succ_of_lt hi)]
abbrev orF (n:Int)(i:Nat):Int:=qe .or .u64 n (IntKind.wrap .u64 (1*2^min (i:Int).toNat (IntKind.bits .u64)))
theorem orF_eq {n i:Nat}(hi:i<64)(hn:n<2^i):orF (n:Int) i=((n+2^i:Nat):Int):=by
 have hp:2^i<=2^63:=jT (by decide) (by omega);have a:(2:Int)^min (i:Int).toNat (IntKind.bits .u64)=((2^i:Nat):Int):=by
  rw[show min (i:Int).toNat (IntKind.bits .u64)=i by show min _ 64=_;omega]
  norm_cast
 unfold orF;rw[a,Int.one_mul,qpk (by omega)];exact or64 (k:=i) hn ⟨1,by rw[Nat.one_mul]⟩ (by omega)
def qeo (n i:Nat):Bool:=n/2^i % 2==1
theorem qfu (n:Nat):∀k,qaj (qeo n) k=n % 2^k
 |0=>by rw[qaj];omega
 |k+1=>by
  rw[qaj,qfu n k,Nat.pow_succ,Nat.mod_mul]
  unfold qeo
  have:=kq (n/2^k)
  rcases this with h|h<;>rw[h]<;>simp
theorem and1_eq (k:IntKind)(hk:k= .i64\/k= .u64)(n:Nat)(h:n<2^63):qe .and k (n:Int) 1=((n % 2:Nat):Int):=by
 have e:(BitVec.ofInt 64 (n:Int)&&&BitVec.ofInt 64 1).toNat=n % 2:=by
  rw[BitVec.ofInt_natCast,BitVec.toNat_and,BitVec.toNat_ofNat,jW (by omega)];exact Nat.and_one_is_mod n
 rcases hk with rfl|rfl
 ·show IntKind.wrap .i64 ((BitVec.ofInt 64 (n:Int)&&&BitVec.ofInt 64 1).toNat:Int)=_
  rw[e];exact qbm ⟨by omega,by omega⟩
 ·show IntKind.wrap .u64 ((BitVec.ofInt 64 (n:Int)&&&BitVec.ofInt 64 1).toNat:Int)=_
  rw[e];exact qbm ⟨by omega,by omega⟩
theorem bit_eq (k:IntKind)(hk:k= .i64\/k= .u64){n i:Nat}(h:n<2^63)(hi:i<64):((qe .and k (Int.fdiv (n:Int) (2^min (i:Int).toNat (IntKind.bits k))) 1:Int)==1)=qeo n i:=by
 have e:Int.fdiv (n:Int) (2^min (i:Int).toNat (IntKind.bits k))=((n/2^i:Nat):Int):=by
  have a:(2:Int)^min (i:Int).toNat (IntKind.bits k)=((2^i:Nat):Int):=by
   rw[show min (i:Int).toNat (IntKind.bits k)=i by rcases hk with rfl|rfl<;>(show min _ 64=_;omega)]
   norm_cast
  rw[a,jV _ (Int.natCast_nonneg _)]
  norm_cast
 rw[e,and1_eq k hk _ (Nat.lt_of_le_of_lt (Nat.div_le_self _ _) h)];unfold qeo;have:=kq (n/2^i);rcases this with h|h<;>rw[h]<;>rfl
def qbG (s:Sty):Nat:=s.fore.toNat+16*s.back.toNat+(if s.bold=true then 256 else 0)+(if s.under=true then 512 else 0)+if s.turned=true then 1024 else 0
def qjY (n:Nat):Sty:=⟨n/256 % 2==1,n/512 % 2==1,n/1024 % 2==1,((n % 16:Nat):Int),((n/16 % 16:Nat):Int)⟩
theorem ql5:∀n,n<2048->qbG (qjY n)=n:=by decide+kernel
theorem ql6 (s:Sty)(h:qD s=true):qjY (qbG s)=s:=by
 obtain⟨a,b,c,f,k⟩:=s;simp only[qD,ii,ip]at h;obtain⟨f,rfl⟩:∃n:Nat,f=(n:Int):=⟨f.toNat,by omega⟩
 obtain⟨k,rfl⟩:∃n:Nat,k=(n:Int):=⟨k.toNat,by omega⟩
 have d:∀f,f<9-> ∀k,k<9-> ∀a b c:Bool,qjY (qbG ⟨a,b,c,((f:Nat):Int),((k:Nat):Int)⟩)=⟨a,b,c,((f:Nat):Int),((k:Nat):Int)⟩:=by
  intro f hf k hk a b c;unfold qjY qbG;simp only[il,Sty.mk.injEq];cases a<;>cases b<;>cases c<;>simp<;>omega
 exact d f (by omega) k (by omega) a b c
theorem qeV {s:Sty}(h:qD s=true):qbG s<2048:=by
 simp only[qD,ii,ip]at h;unfold qbG;split<;>split<;>split<;>omega
def qgL (s:RS):Sty×Bool×RS:=if((qP 2048 s).2.isSome&&qD (qjY (qP 2048 s).1.toNat))=true then(qjY (qP 2048 s).1.toNat,true,(qP 2048 s).2)else(qdd,false,(qP 2048 s).2)
theorem qjZ {s:RS}{x:Sty}{s':RS}(hs:rsB s)(h:qgL s=(x,true,s')):∃ys zs,s=some ys/\s'=some zs/\ys=qv (qbG x)++zs/\qD x=true:=by
 unfold qgL at h;split at h
 ·rename_i a
  simp only[ib,true_and]at h;obtain⟨rfl,rfl⟩:=h;rw[ii]at a;obtain⟨a,b⟩:=a;obtain⟨zs,hz⟩:=jN.1 a;obtain⟨ys,c,d,g,i,e⟩:=qa9 hs (Prod.ext rfl hz);have f:(qP 2048 s).1.toNat<2048:=by have j:(qP 2048 s).1<2048:=e (by decide);omega
  exact⟨ys,zs,c,hz,by rw[ql5 _ f];exact d,b⟩
 ·simp at h
theorem qk0 {s:RS}(hs:rsB s):rsB (qgL s).2.2:=by
 unfold qgL;split<;>exact qF hs
def qdy (n:Nat)(c:Cel):List Int:=qv n++(qv c.rune.toNat++qv (qbG c.sty))
def qhn (c:Cel):List (Nat×Cel)->List (Nat×Cel)
 |[]=>[(1,c)]
 |(n,d)::t=>if d=c then(n+1,d)::t else(1,c)::(n,d)::t
def qef:List Cel->List (Nat×Cel)
 |[]=>[]
 |c::r=>qhn c (qef r)
def qa7 (l:List Cel):List Int:=(qef l).flatMap fun p=>qdy p.1 p.2
theorem consR_ne (c:Cel)(t:List (Nat×Cel)):qhn c t≠[]:=by
 unfold qhn;split
 ·exact kf _ _
 ·split<;>exact kf _ _
theorem runsL_ne {l:List Cel}(h:l≠[]):qef l≠[]:=by
 cases l with
 |nil=>exact absurd rfl h
 |cons c r=>exact consR_ne _ _
theorem qnt:∀{l:List Cel} {n:Nat} {d:Cel} {t:List (Nat×Cel)},qef l=(n,d)::t->l.head? =some d
 |[],_,_,_,h=>by cases h
 |c::r,n,d,t,h=>by
  unfold qef qhn at h
  split at h
  ·simp only[List.cons.injEq,ib]at h
   rw[<-h.1.2];rfl
  ·split at h
   ·rename_i e
    simp only[List.cons.injEq,ib]at h
    rw[<-h.1.2,e];rfl
   ·simp only[List.cons.injEq,ib]at h
    rw[<-h.1.2];rfl
theorem qeW (c:Cel)(r:List Cel)(h:r.head? ≠some c):∀n,qef (List.replicate (n+1) c++r)=(n+1,c)::qef r
 |0=>by
  show qhn c (qef r)=_
  unfold qhn
  split
  ·rename_i e;rw[e]
  ·rename_i n d t e
   rw[if_neg (fun hd=>h (by rw[qnt e,hd])),e]
 |n+1=>by
  rw[List.replicate_succ]
  show qhn c (qef (List.replicate (n+1) c++r))=_
  rw[qeW c r h n,qhn,if_pos rfl]
theorem qdz {c:Cel}{r:List Cel}(h:r.head? ≠some c)(n:Nat):qa7 (List.replicate (n+1) c++r)=qdy (n+1) c++qa7 r:=by
 unfold qa7;rw[qeW c r h n];rfl
theorem qhV {c:Cel}{n:Nat}:∀{l:List Cel},l.getLast? ≠some c->qef (l++List.replicate (n+1) c)=qef l++[(n+1,c)]
 |[],_=>by
  have:=qeW c [] (by simp) n
  rw[iH]at this
  exact this
 |d::r,h=>by
  show qhn d (qef (r++List.replicate (n+1) c))=qhn d (qef r)++_
  cases r with
  |nil=>
   have hd:¬c=d:=fun e=>h (by rw[e];rfl)
   have:=qeW c [] (by simp) n
   rw[iH]at this
   rw[iO,this]
   show(if c=d then _ else _)=_
   rw[if_neg hd];rfl
  |cons e r=>
   have h2:(e::r).getLast? ≠some c:=by rw[List.getLast?_cons_cons]at h;exact h
   rw[qhV h2]
   have a:=runsL_ne (kf e r)
   match hq:qef (e::r),a with
   |(k,q)::t,_=>
    show(if q=d then(k+1,q)::(t++_)else(1,d)::(k,q)::(t++_))=(if q=d then(k+1,q)::t else(1,d)::(k,q)::t)++_
    split<;>rfl
theorem qnu {c:Cel}{n:Nat}{l:List Cel}(h:l.getLast? ≠some c)(hn:0<n):qa7 (l++List.replicate n c)=qa7 l++qdy n c:=by
 obtain⟨n,rfl⟩:∃m,n=m+1:=⟨n-1,by omega⟩
 unfold qa7;rw[qhV h,jY];simp
def cOk (c:Cel):Prop:=qD c.sty=true/\0<=c.rune/\c.rune<1114112
def qk1 (W:Int)(out:List Cel)(s:RS):Option (List Cel)×RS:=
 if(qgL (qP 1114112 (qP (W-(out.length:Int)+1) s).2).2).2.1=false\/(qP (W-(out.length:Int)+1) s).1=0\/out.getLast? =some ⟨(qP 1114112 (qP (W-(out.length:Int)+1) s).2).1,(qgL (qP 1114112 (qP (W-(out.length:Int)+1) s).2).2).1⟩then(none,(qgL (qP 1114112 (qP (W-(out.length:Int)+1) s).2).2).2.2)
 else(some (out++List.replicate (qP (W-(out.length:Int)+1) s).1.toNat ⟨(qP 1114112 (qP (W-(out.length:Int)+1) s).2).1,(qgL (qP 1114112 (qP (W-(out.length:Int)+1) s).2).2).1⟩),(qgL (qP 1114112 (qP (W-(out.length:Int)+1) s).2).2).2.2)
theorem qcA {W:Int}{out:List Cel}{s s1 s2 s3:RS}{n r:Int}{t:Sty}{ok:Bool}(h1:qP (W-(out.length:Int)+1) s=(n,s1))(h2:qP 1114112 s1=(r,s2))(h3:qgL s2=(t,ok,s3)):
  qk1 W out s=if ok=false\/n=0\/out.getLast? =some ⟨r,t⟩then(none,s3)else(some (out++List.replicate n.toNat ⟨r,t⟩),s3):=by
 unfold qk1;rw[h1];dsimp only;rw[h2];dsimp only;rw[h3]
def qc0:Nat->Int->List Cel->RS->Option (List Cel)×RS
 |0,_,out,s=>(some out,s)
 |f+1,W,out,s=>if W<=(out.length:Int)then(some out,s)else match qk1 W out s with
  |(none,s')=>(none,s')
  |(some o,s')=>qc0 f W o s'
def qdA (W:Int)(s:RS):List Cel×Bool×RS:=match qc0 W.toNat W [] s with
 |(none,s')=>([],false,s')
 |(some o,s')=>if qb6 o=true then(o,true,s')else([],false,s')
theorem qcR {f:Nat}{W:Int}{out:List Cel}{s:RS}(h:W<=(out.length:Int)):qc0 f W out s=(some out,s):=by
 cases f with
 |zero=>rfl
 |succ f=>rw[qc0,if_pos h]
theorem qgM {f:Nat}{W:Int}{out:List Cel}{s s':RS}(h:¬W<=(out.length:Int))(hf:W.toNat-out.length<=f)(hs:qk1 W out s=(none,s')):qc0 f W out s=(none,s'):=by
 cases f with
 |zero=>omega
 |succ f=>rw[qc0,if_neg h,hs]
theorem qm9 {f:Nat}{W:Int}{out o:List Cel}{s s':RS}(h:¬W<=(out.length:Int))(hf:W.toNat-out.length<=f)(hs:qk1 W out s=(some o,s')):∃f',f=f'+1/\qc0 f W out s=qc0 f' W o s':=by
 cases f with
 |zero=>omega
 |succ f=>exact⟨f,rfl,by rw[qc0,if_neg h,hs]⟩
theorem qnv {W:Int}{out:List Cel}{s:RS}(hs:rsB s):rsB (qk1 W out s).2:=by
 unfold qk1;split<;>exact qk0 (qF (qF hs))
theorem qhW:∀(f:Nat) {W:Int} {out:List Cel} {s:RS},rsB s->rsB (qc0 f W out s).2
 |0,_,_,_,h=>h
 |f+1,W,out,s,h=>by
  rw[qc0]
  split
  ·exact h
  ·have:=qnv (W:=W) (out:=out) h
   split
   ·rename_i e;rw[e]at this;exact this
   ·rename_i e;rw[e]at this;exact qhW f this
theorem qfv {W:Int}{s:RS}(hs:rsB s):rsB (qdA W s).2.2:=by
 have:=qhW W.toNat (W:=W) (out:=[]) hs;unfold qdA;split
 ·rename_i e;rw[e]at this;exact this
 ·rename_i e
  rw[e]at this;split<;>exact this
theorem qnw:∀(f:Nat) (W:Int) (out o:List Cel) (ys:List Int) (s':RS),qat ys->(out.length:Int)<=W->(∀c∈out,cOk c)->W.toNat-out.length<=f->qc0 f W out (some ys)=(some o,s')->
  ∃zs,s'=some zs/\qa7 out++ys=qa7 o++zs/\(o.length:Int)=W/\ ∀c∈o,cOk c:=by
 intro f
 induction f with
 |zero=>
  intro W out o ys s' hb hl hc hf h;simp only[qc0,ib,ij]at h;obtain⟨rfl,rfl⟩:=h;exact⟨ys,rfl,rfl,by omega,hc⟩
 |succ f ih=>
  intro W out o ys s' hb hl hc hf h;rw[qc0]at h;split at h
  ·simp only[ib,ij]at h
   obtain⟨rfl,rfl⟩:=h;exact⟨ys,rfl,rfl,by omega,hc⟩
  ·rename_i hW
   obtain⟨n,a,b⟩:∃n a,qP (W-(out.length:Int)+1) (some ys)=(n,a):=⟨_,_,rfl⟩
   obtain⟨r,d,g⟩:∃n d,qP 1114112 a=(n,d):=⟨_,_,rfl⟩
   obtain⟨t,ok,k,l⟩:∃t ok k,qgL d=(t,ok,k):=⟨_,_,_,rfl⟩
   rw[qcA b g l]at h;split at h
   ·rename_i e
    split at e
    ·cases h
    ·cases e
   ·rename_i O P e
    split at e
    ·cases e
    ·rename_i hn
     simp only[ib,ij]at e;obtain⟨rfl,rfl⟩:=e;simp only[not_or]at hn;obtain⟨Q,R,s⟩:=hn;have u:ok=true:=by cases ok<;>simp_all
     subst u;have m:rsB (some ys):=fun x hx=>by cases hx;exact hb
     have i:=qF (lim:=W-(out.length:Int)+1) m;rw[b]at i;have j:=qF (lim:=1114112) i;rw[g]at j;obtain⟨v,p,w,y,q,z⟩:=qjZ j l;subst w y;obtain⟨S,A,B,C,T,D⟩:=qa9 i g;subst A;obtain⟨y1,E,F,U,V,G⟩:=qa9 m b;obtain rfl:=ia E;have H:0<n.toNat:=by omega
     have X:=G (by omega);have I:qat p:=by
      have:=j v rfl;rw[q]at this;exact fun x hx=>this x (kd _ hx)
     obtain⟨zs,J,K,L,M⟩:=ih W _ o p s' I (by rw[hJ,iu];omega) (fun c N=>by
      rcases iD.1 N with h|h
      ·exact hc c h
      ·rw[(List.mem_replicate.1 h).2];exact⟨z,C,by have:=D (by decide);exact this⟩) (by rw[hJ,iu];omega) h
     refine⟨zs,J,?_,L,M⟩;rw[<-K,qnu s H,F,B,q];unfold qdy;simp only[ie]
theorem qnx {W:Int}{s:RS}{o:List Cel}{s':RS}(hs:rsB s)(hW:0<W)(h:qdA W s=(o,true,s')):∃ys zs,s=some ys/\s'=some zs/\ys=qa7 o++zs/\(o.length:Int)=W/\qb6 o=true/\ ∀c∈o,cOk c:=by
 unfold qdA at h;cases s with
 |none=>
  obtain⟨f,hf⟩:∃f,W.toNat=f+1:=⟨W.toNat-1,by omega⟩
  rw[hf,qc0,if_neg (by simpa using hW)]at h;have:qk1 W [] none=(none,none):=by
   rw[qcA (n:=0) (s1:=none) (r:=0) (s2:=none) (t:=qdd) (ok:=false) (s3:=none) rfl rfl rfl,if_pos (.inl rfl)]
  rw[this]at h;simp at h
 |some ys=>
  split at h
  ·simp at h
  ·rename_i a s2 e
   split at h
   ·rename_i hw
    simp only[ib,true_and]at h;obtain⟨rfl,rfl⟩:=h;obtain⟨zs,b,d,g,i⟩:=qnw W.toNat W [] a ys s2 (hs ys rfl) (by simp;omega) (fun c hc=>by cases hc) (by simp) e;exact⟨ys,zs,rfl,b,d,g,hw,i⟩
   ·simp at h
def qam (W:Int):Nat->List (List Cel)->RS->Bool->List (List Cel)×RS×Bool
 |0,out,s,f=>(out,s,f)
 |k+1,out,s,f=>if(f&&(qdA W s).2.1)=true then qam W k (out++[(qdA W s).1]) (qdA W s).2.2 true else([],(qdA W s).2.2,false)
theorem qbH {W:Int}:∀(k:Nat) {out:List (List Cel)} {s:RS} {f:Bool},rsB s->rsB (qam W k out s f).2.1
 |0,_,_,_,h=>h
 |k+1,out,s,f,h=>by
  rw[qam]
  split
  ·exact qbH k (qfv h)
  ·exact qfv h
theorem qd3 {W:Int}(hW:0<W):∀(k:Nat) {out L:List (List Cel)} {s s':RS} {f:Bool},rsB s->s.isSome=true\/0<k->qam W k out s f=(L,s',true)->
  ∃M ys zs,f=true/\L=out++M/\s=some ys/\s'=some zs/\ys=M.flatMap qa7++zs/\M.length=k/\ ∀l∈M,(l.length:Int)=W/\qb6 l=true/\ ∀c∈l,cOk c
 |0,out,L,s,s',f,hs,h0,h=>by
  simp only[qam,ib]at h
  obtain⟨rfl,rfl,rfl⟩:=h
  obtain⟨ys,rfl⟩:=jN.1 (h0.resolve_right (by decide))
  exact⟨[],ys,ys,rfl,(iH _).symm,rfl,rfl,rfl,rfl,fun l hl=>by cases hl⟩
 |k+1,out,L,s,s',f,hs,h0,h=>by
  obtain⟨l1,ok1,s1,hL⟩:∃a b c,qdA W s=(a,b,c):=⟨_,_,_,rfl⟩
  have hb:=qfv (W:=W) hs
  rw[qam,hL]at h
  rw[hL]at hb
  dsimp only at h hb
  split at h
  ·rename_i hf
   rw[ii]at hf
   obtain⟨hf,rfl⟩:=hf
   obtain⟨ys,zs,e1,rfl,e3,e4,e5,e6⟩:=qnx hs hW hL
   obtain⟨M,ys2,zs2,_,q1,q2,q3,q4,q5,q6⟩:=qd3 hW k hb (.inl rfl) h
   obtain rfl:=ia q2
   exact⟨l1::M,ys,zs2,hf,by rw[q1];simp,e1,q3,by rw[e3,q4];simp,by simp[q5],fun l hl=>by
    rcases j9.1 hl with rfl|hl
    ·exact⟨e4,e5,e6⟩
    ·exact q6 l hl⟩
  ·simp at h
def qeg:Nat->List (List Cel)->RS->Bool->List (List Cel)×RS×Bool
 |0,out,s,f=>(out,s,f)
 |k+1,out,s,f=>if((qam (qP 61 s).1 1 [] (qP 61 s).2 f).2.2&&decide (0<(qP 61 s).1))=true then qeg k (out++(qam (qP 61 s).1 1 [] (qP 61 s).2 f).1) (qam (qP 61 s).1 1 [] (qP 61 s).2 f).2.1 true else([],(qam (qP 61 s).1 1 [] (qP 61 s).2 f).2.1,false)
def qfS (s:RS)(f:Bool):List (List Cel)×RS×Bool:=qeg (qP 21 s).1.toNat [] (qP 21 s).2 f
def qbU (B:List (List Cel)):List Int:=B.flatMap fun l=>qv l.length++qa7 l
theorem qhX:∀(k:Nat) {out:List (List Cel)} {s:RS} {f:Bool},rsB s->rsB (qeg k out s f).2.1
 |0,_,_,_,h=>h
 |k+1,out,s,f,h=>by
  rw[qeg]
  split
  ·exact qhX k (qbH 1 (qF h))
  ·exact qbH 1 (qF h)
theorem qhY:∀(k:Nat) {out L:List (List Cel)} {s s':RS} {f:Bool},rsB s->s.isSome=true\/0<k->qeg k out s f=(L,s',true)->
  ∃M ys zs,f=true/\L=out++M/\s=some ys/\s'=some zs/\ys=qbU M++zs/\M.length=k/\ ∀l∈M,0<l.length/\l.length<=60/\qb6 l=true/\ ∀c∈l,cOk c
 |0,out,L,s,s',f,hs,h0,h=>by
  simp only[qeg,ib]at h
  obtain⟨rfl,rfl,rfl⟩:=h
  obtain⟨ys,rfl⟩:=jN.1 (h0.resolve_right (by decide))
  exact⟨[],ys,ys,rfl,(iH _).symm,rfl,rfl,rfl,rfl,fun l hl=>by cases hl⟩
 |k+1,out,L,s,s',f,hs,h0,h=>by
  obtain⟨n,s1,hN⟩:∃a b,qP 61 s=(a,b):=⟨_,_,rfl⟩
  have hb:=qF (lim:=61) hs
  rw[qeg,hN]at h
  rw[hN]at hb
  dsimp only at h hb
  obtain⟨L1,s2,f2,hL⟩:∃a b c,qam n 1 [] s1 f=(a,b,c):=⟨_,_,_,rfl⟩
  have hb2:=qbH (W:=n) 1 (out:=[]) (f:=f) hb
  rw[hL]at h hb2
  dsimp only at h hb2
  split at h
  ·rename_i hf
   rw[ii,ip]at hf
   obtain⟨rfl,hw⟩:=hf
   obtain⟨M1,y1,z1,f1,q1,rfl,rfl,q4,q5,q6⟩:=qd3 hw 1 hb (.inr (by decide)) hL
   obtain⟨ys,e1,e2,e3,e4,e5⟩:=qa9 hs hN
   obtain⟨l,rfl⟩:∃l,M1=[l]:=by
    match M1,q5 with
    |[l],_=>exact⟨l,rfl⟩
   have hl:=q6 l (iA.2 rfl);have q:=e5 (by decide);obtain⟨M,r,d,_,e,g,i,j,o,p⟩:=qhY k hb2 (.inl rfl) h;obtain rfl:=ia g;refine⟨l::M,ys,d,f1,by rw[e,q1];simp,e1,i,?_,by simp[o],fun m hm=>?_⟩
   ·rw[e2,q4,j]
    unfold qbU;rw[show n.toNat=l.length by have:=hl.1;omega];simp
   ·rcases j9.1 hm with rfl|hm
    ·exact⟨by have:=hl.1;omega,by have:=hl.1;omega,hl.2⟩
    ·exact p m hm
  ·simp at h
theorem qny {s s':RS}{L:List (List Cel)}{f:Bool}(hs:rsB s)(h:qfS s f=(L,s',true))(hz:s'.isSome=true):∃ys zs,f=true/\s=some ys/\s'=some zs/\ys=qv L.length++(qbU L++zs)/\L.length<=20/\ ∀l∈L,0<l.length/\l.length<=60/\qb6 l=true/\ ∀c∈l,cOk c:=by
 obtain⟨n,g,hN⟩:∃a b,qP 21 s=(a,b):=⟨_,_,rfl⟩
 have hb:=qF (lim:=21) hs;unfold qfS at h;rw[hN]at h hb;dsimp only at h hb;have i:g.isSome=true\/0<n.toNat:=by
  rcases jm n.toNat with d|d
  ·rw[d]at h
   simp only[qeg,ib]at h;rw[h.2.1];exact .inl hz
  ·exact .inr d
 obtain⟨M,y1,j,f1,e,rfl,k,m,o,p⟩:=qhY _ hb i h;obtain⟨ys,q,r,u,v,t⟩:=qa9 hs hN;have w:=t (by decide);rw[iO]at e;subst e;exact⟨ys,j,f1,q,k,by rw[r,m,o],by omega,p⟩
structure uR (u:US):Prop where
 n:0<=u.n/\u.n<=3
 b0:u.n<=0->u.b0=0
 b1:u.n<=1->u.b1=0
 b2:u.n<=2->u.b2=0
 f:u.n=0\/qbT u.pend=false
theorem sz_all:∀c,c<256->qe .and .u8 (firstN c) 7<=4:=by decide+kernel
theorem uR0:uR u0:=⟨by decide,fun _=>rfl,fun _=>rfl,fun _=>rfl,.inl rfl⟩
theorem qpn {l:List Int}(h:∀x∈l,0<=x/\x<=255):∀k,¬(0<(itU l k).2.length/\qbT (itU l k).2=true)\/(itU l k).2.length+k<=l.length
 |0=> .inr (by show l.length+0<=l.length;omega)
 |k+1=>by
  by_cases hc:0<(itU l k).2.length/\qbT (itU l k).2=true
  ·have ih:=(qpn h k).resolve_left (fun h=>h hc)
   right
   have:=qkS (qdq h k) hc.1
   rw[qhG hc.1 hc.2]
   simp only[iG]
   omega
  ·left
   have:=qiw hc 1
   rw[this];exact hc
theorem qpo {u:US}(h:u.ok){c:Int}(hc:0<=c/\c<=255):((itU (u.pend++[c]) 4).2=[]\/qbT (itU (u.pend++[c]) 4).2=false)/\(itU (u.pend++[c]) 4).2.length<=3:=by
 have hl:∀x∈u.pend++[c],0<=x/\x<=255:=fun x hx=>by
  rcases iD.1 hx with hx|hx
  ·exact h.pend x hx
  ·rw[iA.1 hx];exact hc
 have hn:(u.pend++[c]).length<=4:=by rw[hJ,h.len];have:=h.n;simp only[iz,iP];omega
 have a:(itU (u.pend++[c]) 4).2=[]\/qbT (itU (u.pend++[c]) 4).2=false:=by
  rcases qpn hl 4 with d|d
  ·rcases jm (itU (u.pend++[c]) 4).2.length with b|b
   ·exact .inl (iy b)
   ·exact .inr (by cases e:qbT (itU (u.pend++[c]) 4).2 with
     |false=>rfl
     |true=>exact absurd ⟨b,e⟩ d)
  ·exact .inl (iy (by omega))
 refine⟨a,?_⟩;rcases a with a|a
 ·rw[a];exact ir _
 ·have hb:=qdq hl 4
  have hs:=sz_all ((itU (u.pend++[c]) 4).2.getD 0 0).toNat (by have:=qaM hb (by decide) 0;omega);unfold qbT at a;split at a
  ·rename_i b;omega
  ·split at a
   ·cases a
   ·rename_i b
    have hs':szI (itU (u.pend++[c]) 4).2<=4:=hs;omega
theorem qma {l:List Int}(h:l.length<=3):(mkU l).pend=l:=by
 unfold mkU US.pend;simp only[il]
 match l,h with
 |[],_=>rfl
 |[a],_=>rfl
 |[a,b],_=>rfl
 |[a,b,c],_=>rfl
theorem qpp {u:US}(h:u.ok){c:Int}(hc:0<=c/\c<=255):uR (qdg u c).1:=by
 obtain⟨a,b⟩:=qpo h hc;show uR (mkU ((itU (u.pend++[c]) 4).2.take 3));rw[je b];generalize (itU (u.pend++[c]) 4).2=r at a b;have hg:∀i,r.length<=i->r.getD i 0=0:=fun i hi=>by rw[List.getD,jn hi];rfl
 refine⟨⟨Int.natCast_nonneg _,by show(r.length:Int)<=3;omega⟩,fun e=>hg 0 ?_,fun e=>hg 1 ?_,fun e=>hg 2 ?_,?_⟩
 ·have e:(r.length:Int)<=0:=e;omega
 ·have e:(r.length:Int)<=1:=e;omega
 ·have e:(r.length:Int)<=2:=e;omega
 ·rw[qma b]
  rcases a with rfl|a
  ·exact .inl rfl
  ·exact .inr a
def lowM (c:Int):Prop:=32<=c/\c<48
def wideM (c:Int):Prop:=lowM c\/(60<=c/\c<=63)
def allB (f:Int->Prop)(s:ByteArray):Prop:= ∀i:Nat,i<s.size->f (bt s (i:Int))
theorem qgb (f:Int->Prop):allB f ByteArray.empty:=fun i hi=>by have:i<0:=hi;omega
theorem qnz {c:Int}(hc:0<=c/\c<=255):(qf [c]).size=1/\bt (qf [c]) 0=c:=by
 refine⟨rfl,?_⟩;have:∀k:Nat,k<256->bt (qf [(k:Int)]) 0=(k:Int):=by decide+kernel
 have:=this c.toNat (by omega);rwa[show(c.toNat:Int)=c by omega]at this
theorem qgN {f:Int->Prop}{s:ByteArray}(h:allB f s){c:Int}(hc:0<=c/\c<=255)(hf:f c):allB f (s++qf [c]):=fun i hi=>by
 have hb:=qnz hc
 rw[iT,hb.1]at hi
 unfold bt
 rw[dif_pos (show(i:Int).toNat<(s++qf [c]).size by rw[iT,hb.1];omega)]
 simp only[il]
 by_cases b:i<s.size
 ·have:=h i b
  unfold bt at this
  rw[dif_pos (show(i:Int).toNat<s.size by omega)]at this
  simp only[il]at this
  rw[ByteArray.getElem_append_left b];exact this
 ·have e:i=s.size:=by omega
  subst e
  rw[ByteArray.getElem_append_right (iE _)]
  have a:=hb.2
  unfold bt at a
  rw[dif_pos (show(0:Int).toNat<(qf [c]).size by rw[hb.1];decide)]at a
  simp only[Nat.sub_self]
  have d:(((qf [c])[0]'(by rw[hb.1];decide)).toNat:Int)=c:=a
  rw[d];exact hf
structure PRight (p:PS):Prop where
 st:0<=p.state/\p.state<=7
 wi:p.state≠7->p.within=0
 wc:p.state=7->p.within=5\/p.within=6
 u:p.state≠0->p.utf=u0
 u':uR p.utf
 m:p.state≠2->p.state≠3->p.state≠4->p.marks=ByteArray.empty
 n:p.state≠3->p.state≠4->p.params=[]
 t:p.state<=4->p.text=ByteArray.empty
 m2:p.state=2->1<=p.marks.size/\allB lowM p.marks
 m3:p.state=3\/p.state=4->allB wideM p.marks
 t5:allB (fun c=>32<=c) p.text
theorem qeX {s:Int}(h:s=0\/s=1\/s=3\/s=5\/s=6):PRight (atP s):=by
 refine⟨by show 0<=s/\s<=7;omega,fun _=>rfl,fun e=>?_,fun _=>rfl,uR0,fun _ _ _=>rfl,fun _ _=>rfl,fun _=>rfl,fun e=>?_,fun _=>qgb _,qgb _⟩
 ·have e:s=7:=e;omega
 ·have e:s=2:=e;omega
theorem qpq {p:PS}(h:PRight p)(h0:p.state=0){u:US}(hu:uR u):PRight {p with utf:=u}:={h with u:=fun e=>absurd h0 e,u':=hu}
theorem qaX {c:Prop}[Decidable c]{a b:PS×List Ac}(h1:c->PRight a.1)(h2:¬c->PRight b.1):PRight (if c then a else b).1:=by
 split
 ·exact h1 ‹_›
 ·exact h2 ‹_›
theorem qpr {p:PS}(h:PRight p)(hl:p.lim)(h0:p.state=0){c:Int}(hc:0<=c/\c<=255):PRight (qT p c).1:=by
 unfold qT;refine qaX (fun _=>?_) fun _=>qpq h h0 (qpp hl.u hc);refine qaX (fun _=>qeX (.inr (.inl rfl))) fun _=>?_;exact qaX (fun _=>qpq h h0 uR0) fun _=>qpq h h0 (qpp qkV hc)
theorem qps {p:PS}(h:PRight p)(h5:p.state=5\/p.state=6){c:Int}(hc:0<=c/\c<=255):PRight (qS p c).1:=by
 unfold qS;refine qaX (fun _=>?_) fun _=>?_
 ·exact⟨(by show(0:Int)<=7/\(7:Int)<=7;decide),fun e=>absurd rfl e,fun _=>h5,fun _=>h.u (by omega),h.u',fun _ _ _=>h.m (by omega) (by omega) (by omega),fun _ _=>h.n (by omega) (by omega),fun e=>absurd e (by show¬(7:Int)<=4;decide),fun e=>absurd e (by show¬(7:Int)=2;decide),fun e=>absurd e (by show¬((7:Int)=3\/(7:Int)=4);decide),h.t5⟩
 refine qaX (fun _=>qeX (.inl rfl)) fun _=>?_;refine qaX (fun _=>qeX (.inl rfl)) fun _=>?_;refine qaX (fun hx=>?_) fun _=>h;exact{h with t:=fun e=>absurd e (by show¬p.state<=4;omega),t5:=qgN h.t5 hc hx.1}
theorem qpt {p:PS}(h:PRight p)(h1:p.state=1\/p.state=2){c:Int}(hc:32<=c/\c<=255):PRight (qs p c).1:=by
 unfold qs;have a:allB lowM p.marks:=by
  rcases h1 with e|e
  ·rw[h.m (by omega) (by omega) (by omega)];exact qgb _
  ·exact(h.m2 e).2
 have d:p.state=2->1<=p.marks.size:=fun e=>(h.m2 e).1;refine qaX (fun b=>?_) fun _=>?_
 ·show PRight (if _ then _ else _)
  split
  ·exact⟨(by show(0:Int)<=2/\(2:Int)<=7;decide),fun _=>h.wi (by omega),fun e=>absurd e (by show¬(2:Int)=7;decide),fun _=>h.u (by omega),h.u',fun e=>absurd rfl e,fun _ _=>h.n (by omega) (by omega),fun _=>h.t (by omega),fun _=>⟨by show 1<=(p.marks++qf [c]).size;rw[iT,qb5];omega,qgN a ⟨by omega,hc.2⟩ ⟨hc.1,b⟩⟩,fun e=>absurd e (by show¬((2:Int)=3\/(2:Int)=4);decide),h.t5⟩
  ·rename_i f
   exact⟨(by show(0:Int)<=2/\(2:Int)<=7;decide),fun _=>h.wi (by omega),fun e=>absurd e (by show¬(2:Int)=7;decide),fun _=>h.u (by omega),h.u',fun e=>absurd rfl e,fun _ _=>h.n (by omega) (by omega),fun _=>h.t (by omega),fun _=>⟨by show 1<=p.marks.size;omega,a⟩,fun e=>absurd e (by show¬((2:Int)=3\/(2:Int)=4);decide),h.t5⟩
 refine qaX (fun _=>qeX (.inr (.inr (.inl rfl)))) fun _=>?_;refine qaX (fun _=>qeX (.inr (.inr (.inr (.inl rfl))))) fun _=>?_;refine qaX (fun _=>qeX (.inr (.inr (.inr (.inr rfl))))) fun _=>?_;exact qeX (.inl rfl)
theorem pr_csi {p:PS}(h:PRight p)(h3:p.state=3\/p.state=4){c:Int}(hc:32<=c/\c<=255):PRight (qbE p c).1:=by
 have hp:∀l,PRight {p with params:=l}:=fun l=>{h with n:=fun e e'=>absurd h3 (by show¬(p.state=3\/p.state=4);exact fun h=>h.elim e e')}
 unfold qbE;refine qaX (fun _=>hp _) fun hd=>?_;refine qaX (fun _=>?_) fun hs=>?_
 ·show PRight (if _ then _ else _)
  split<;>exact hp _
 refine qaX (fun _=>qaX (fun _=>qeX (.inl rfl)) fun _=>qeX (.inl rfl)) fun b=>?_;refine qaX (fun _=>?_) fun hm=>?_
 ·exact⟨(by show(0:Int)<=4/\(4:Int)<=7;decide),fun _=>h.wi (by omega),fun e=>absurd e (by show¬(4:Int)=7;decide),fun _=>h.u (by omega),h.u',fun _ _ e=>absurd rfl e,fun _ e=>absurd rfl e,fun _=>h.t (by omega),fun e=>absurd e (by show¬(4:Int)=2;decide),fun _=>h.m3 h3,h.t5⟩
 ·exact{h with m:=fun e e' a=>absurd h3 (by show¬(p.state=3\/p.state=4);exact fun h=>h.elim e' a),m2:=fun e=>(by have e:p.state=2:=e;omega),m3:=fun _=>qgN (h.m3 h3) ⟨by omega,hc.2⟩ (by unfold wideM lowM;omega)}
theorem qmb {p:PS}(h:PRight p)(hl:p.lim)(h7:p.state≠7){c:Int}(hc:0<=c/\c<=255):PRight (qaV p c).1:=by
 have e:=h.st;unfold qaV;refine qaX (fun a=>qpr h hl a hc) fun a=>?_;refine qaX (fun d=>qps h (by omega) hc) fun d=>?_;refine qaX (fun _=>qeX (.inl rfl)) fun _=>?_;refine qaX (fun _=>qeX (.inr (.inl rfl))) fun _=>?_;refine qaX (fun _=>h) fun f=>?_;refine qaX (fun _=>h) fun _=>?_;refine qaX (fun b=>pr_csi h b ⟨by omega,hc.2⟩) fun b=>?_;exact qpt h (by omega) ⟨by omega,hc.2⟩
theorem pr_feed {p:PS}(h:PRight p)(hl:p.lim){c:Int}(hc:0<=c/\c<=255):PRight (qbn p c).1:=by
 unfold qbn;refine qaX (fun a=>?_) fun a=>qmb h hl a hc;exact qaX (fun _=>qeX (.inl rfl)) fun _=>qmb (qeX (.inr (.inl rfl))) (qbz 1) (by show(1:Int)≠7;decide) hc
theorem qk2 {T:TS}(h:PRight T.parser)(hl:T.parser.lim)(s:ByteArray):∀k,PRight (qdt T s k).parser
 |0=>h
 |k+1=>by rw[qdt,qp4];exact pr_feed (qk2 h hl s k) (qdU hl s k) (qcZ s _)
theorem pr_do {T:TS}(h:PRight T.parser)(hl:T.parser.lim)(x:Stp):PRight (doT T x).parser:=by
 unfold doT;split
 ·exact qk2 h hl _ _
 ·rw[qeT];exact h
def qeh (c:Cur):List Int:=qv c.x.toNat++(qv c.y.toNat++(qv (qac [c.late])++qv (qbG c.sty)))
def qj7 (W H:Int)(s:RS):Cur×Bool×RS:=
  (⟨(qP W s).1,(qP H (qP W s).2).1,(qP 2 (qP H (qP W s).2).2).1==1,(qgL (qP 2 (qP H (qP W s).2).2).2).1⟩,
   (qgL (qP 2 (qP H (qP W s).2).2).2).2.1&&(!((qP 2 (qP H (qP W s).2).2).1==1)||(qP W s).1==W-1),(qgL (qP 2 (qP H (qP W s).2).2).2).2.2)
theorem qfw {W H:Int}{s s1 s2 s3 s4:RS}{x y l:Int}{t:Sty}{ok:Bool}(h1:qP W s=(x,s1))(h2:qP H s1=(y,s2))(h3:qP 2 s2=(l,s3))(h4:qgL s3=(t,ok,s4)):
    qj7 W H s=(⟨x,y,l==1,t⟩,ok&&(!(l==1)||x==W-1),s4):=by
  unfold qj7;rw[h1];dsimp only;rw[h2];dsimp only;rw[h3];dsimp only;rw[h4]
structure CurOk (W H:Int)(c:Cur):Prop where
  x:0<=c.x/\c.x<W
  y:0<=c.y/\c.y<H
  l:c.late=true->c.x=W-1
  s:qD c.sty=true
theorem qgO {W H:Int}{s:RS}(hs:rsB s):rsB (qj7 W H s).2.2:=qk0 (qF (qF (qF hs)))
theorem qgP {W H:Int}{s s':RS}{c:Cur}(hs:rsB s)(hW:0<W)(hH:0<H)(h:qj7 W H s=(c,true,s')):∃ys zs,s=some ys/\s'=some zs/\ys=qeh c++zs/\CurOk W H c:=by
  obtain⟨x,a,b⟩:∃n a,qP W s=(n,a):=⟨_,_,rfl⟩
  obtain⟨y,k,d⟩:∃n s',qP H a=(n,s'):=⟨_,_,rfl⟩
  obtain⟨l,m,e⟩:∃n s',qP 2 k=(n,s'):=⟨_,_,rfl⟩
  obtain⟨t,ok,K,i⟩:∃n o s',qgL m=(n,o,s'):=⟨_,_,_,rfl⟩
  rw[qfw b d e i]at h;simp only[ib,ii,jx,ju]at h;obtain⟨rfl,⟨rfl,hl⟩,rfl⟩:=h;have f:=qF (lim:=W) hs;rw[b]at f;have g:=qF (lim:=H) f;rw[d]at g;have j:=qF (lim:=2) g;rw[e]at j;obtain⟨L,p,q,r,u,v⟩:=qjZ j i;subst q r;obtain⟨M,w,z,N,O,A⟩:=qa9 g e;subst w;obtain⟨P,B,C,D,Q,E⟩:=qa9 f d;subst B;obtain⟨y1,F,G,I,R,J⟩:=qa9 hs b;have S:=A (by decide);refine⟨y1,p,F,rfl,?_,⟨⟨I,J hW⟩,⟨D,E hH⟩,fun hh=>?_,v⟩⟩
  · unfold qeh
    have:qac [l==1]=l.toNat:=by
      have:l=0\/l=1:=by omega
      rcases this with rfl|rfl<;>rfl
    dsimp only;rw[this,G,C,z,u];simp only[ie]
  · dsimp only at hh
    rcases hl with hl|hl
    · rw[hl]at hh;cases hh
    · exact iU.1 hl
def qk3 (c:Int):Bool:=decide (32<=c)&&decide (c<48)
def qbV (c:Int):Bool:=qk3 c||(decide (60<=c)&&decide (c<=63))
def zb (s:ByteArray):Bool:=s.toList==ByteArray.empty.toList
def utB (u:US):Bool:=decide (0<=u.n)&&decide (u.n<=3)&&([u.b0,u.b1,u.b2].drop u.n.toNat).all (· ==0)&&(u.n==0|| !qbT u.pend)
def qcS (u:US):Bool:=u.b0==0&&u.b1==0&&u.b2==0&&u.n==0
def qgQ (p:PS):Bool:=zb p.marks&&p.params.length==0
def qbk (lo:Nat)(f:Int->Bool)(m:ByteArray):Bool:=decide (lo<=m.size)&&decide (m.size<=2)&&(List.range m.size).all fun i=>f (bt m (i:Int))
def qgR (l:List Int):Bool:=l.all (fun n=>decide (0<=n)&&decide (n<=9999))&&decide (l.length<=8)
def qdB (x:ByteArray):Bool:=((List.range x.size).all fun i=>decide (32<=bt x (i:Int)))&&decide (x.size<=40)
def qG (p:PS):Bool:=
  if(p.state≠7/\p.within≠0)\/(p.state≠0/\qcS p.utf=false)then false
  else if p.state=0 then utB p.utf&&qgQ p&&zb p.text
  else if p.state=1 then qgQ p&&zb p.text
  else if p.state=2 then qbk 1 qk3 p.marks&&p.params.length==0&&zb p.text
  else if p.state=3\/p.state=4 then qbk 0 qbV p.marks&&qgR p.params&&zb p.text
  else if p.state=7 then(if p.within≠5/\p.within≠6 then false else qgQ p&&qdB p.text)
  else if p.state=5\/p.state=6 then qgQ p&&qdB p.text
  else false
def qck (p:PS):List Int:=qv p.state.toNat++(qv p.within.toNat++(qbt (qf p.utf.pend)++(qbt p.marks++(qv p.params.length++(p.params.flatMap (fun n=>qv n.toNat)++qbt p.text)))))
def qeY:Nat->List Int->RS->List Int×RS
  |0,l,s=>(l,s)
  |k+1,l,s=>qeY k (l++[(qP 10000 s).1]) (qP 10000 s).2
theorem qhZ:∀(k:Nat) {l:List Int} {s:RS},rsB s->rsB (qeY k l s).2
  |0,_,_,h=>h
  |k+1,l,s,h=>qhZ k (qF h)
theorem qi0:∀(k:Nat) {l L:List Int} {s:RS} {zs:List Int},rsB s->qeY k l s=(L,some zs)-> ∃M ys,L=l++M/\s=some ys/\ys=M.flatMap (fun n=>qv n.toNat)++zs/\M.length=k/\ ∀n∈M,0<=n/\n<=9999
  |0,l,L,s,zs,hs,h=>by
    simp only[qeY,ib]at h
    obtain⟨rfl,rfl⟩:=h
    exact⟨[],zs,(iH _).symm,rfl,rfl,rfl,fun n hn=>by cases hn⟩
  |k+1,l,L,s,zs,hs,h=>by
    obtain⟨n,s1,hN⟩:∃a b,qP 10000 s=(a,b):=⟨_,_,rfl⟩
    have hb:=qF (lim:=10000) hs
    rw[qeY,hN]at h
    rw[hN]at hb
    dsimp only at h hb
    obtain⟨M,ys,q1,rfl,q3,q4,q5⟩:=qi0 k hb h
    obtain⟨us,e1,e2,e3,e4,e5⟩:=qa9 hs hN
    have e6:=e5 (by decide)
    refine⟨n::M,us,by rw[q1];simp,e1,by rw[e2,q3];simp,by simp[q4],fun x hx=>?_⟩
    rcases j9.1 hx with rfl|hx
    · exact⟨e3,by omega⟩
    · exact q5 x hx
def qiN (s:RS)(f:Bool):PS×RS×Bool:=
  let st:=qP 8 s
  let wi:=qP 8 st.2
  let u:=qbb 3 wi.2
  let m:=qbb 2 u.2
  let n:=qP 9 m.2
  let q:=qeY n.1.toNat [] n.2
  let x:=qbb 40 q.2
  (⟨st.1,mkU (qaT u.1),m.1,q.1,x.1,wi.1⟩,x.2,f&&qG ⟨st.1,mkU (qaT u.1),m.1,q.1,x.1,wi.1⟩)
theorem qgc {s s1 s2 s3 s4 s5 s6 s7:RS}{f:Bool}{st wi n:Int}{u m x:ByteArray}{q:List Int}(h1:qP 8 s=(st,s1))(h2:qP 8 s1=(wi,s2))(h3:qbb 3 s2=(u,s3))(h4:qbb 2 s3=(m,s4))(h5:qP 9 s4=(n,s5))(h6:qeY n.toNat [] s5=(q,s6))(h7:qbb 40 s6=(x,s7)):
    qiN s f=(⟨st,mkU (qaT u),m,q,x,wi⟩,s7,f&&qG ⟨st,mkU (qaT u),m,q,x,wi⟩):=by
  unfold qiN;rw[h1];dsimp only;rw[h2];dsimp only;rw[h3];dsimp only;rw[h4];dsimp only;rw[h5];dsimp only;rw[h6];dsimp only;rw[h7]
structure ParsOk (p:PS):Prop where
  st:0<=p.state/\p.state<8
  wi:0<=p.within/\p.within<8
  u:p.utf.ok
  un:(p.utf.n).toNat=p.utf.pend.length/\p.utf.pend.length<=3
  m:p.marks.size<=2
  n:p.params.length<=8
  b:∀x∈p.params,0<=x/\x<=9999
  t:p.text.size<=40
  r:qG p=true
theorem qnA {s:RS}{f:Bool}{p:PS}{zs:List Int}(hs:rsB s)(h:qiN s f=(p,some zs,true)):∃ys,s=some ys/\ys=qck p++zs/\f=true/\ParsOk p:=by
  obtain⟨st,c,d⟩:∃n c,qP 8 s=(n,c):=⟨_,_,rfl⟩
  obtain⟨wi,D,e⟩:∃n s',qP 8 c=(n,s'):=⟨_,_,rfl⟩
  obtain⟨u,E,g⟩:∃n s',qbb 3 D=(n,s'):=⟨_,_,rfl⟩
  obtain⟨m,F,i⟩:∃n s',qbb 2 E=(n,s'):=⟨_,_,rfl⟩
  obtain⟨n,G,j⟩:∃n s',qP 9 F=(n,s'):=⟨_,_,rfl⟩
  obtain⟨q,H,k⟩:∃q s',qeY n.toNat [] G=(q,s'):=⟨_,_,rfl⟩
  obtain⟨x,s7,z⟩:∃n s',qbb 40 H=(n,s'):=⟨_,_,rfl⟩
  rw[qgc d e g i j k z]at h;simp only[ib,ii]at h;obtain⟨rfl,rfl,rfl,hr⟩:=h;have o:=qF (lim:=8) hs;rw[d]at o;have r:=qF (lim:=8) o;rw[e]at r;have t:=qdW (most:=3) r;rw[g]at t;have v:=qdW (most:=2) t;rw[i]at v;have w:=qF (lim:=9) v;rw[j]at w;have A:=qhZ n.toNat (l:=[]) w;rw[k]at A;obtain⟨y7,I,J,p7⟩:=qcQ A z (by decide);subst I;obtain⟨M,y6,B,K,L,N,O⟩:=qi0 _ w k;rw[iO]at B;subst B K;obtain⟨y5,P,Q,p5,_,R⟩:=qa9 v j;subst P;obtain⟨y4,S,T,p4⟩:=qcQ t i (by decide);subst S;obtain⟨y3,U,V,p3⟩:=qcQ r g (by decide);subst U;obtain⟨y2,W,X,Y,_,Z⟩:=qa9 o e;subst W;obtain⟨y1,e1,a1,p1,_,a3⟩:=qa9 hs d;have y:(qaT u).length<=3:=by rw[qeU];omega
  have C:=qma y;have a4:qf (qaT u)=u:=by
    have:(qf (qaT u)).data.toList=u.data.toList:=by
      rw[qcy];unfold qaT;rw[jB];refine(jA fun b _=>?_).trans (List.map_id _);show UInt8.ofNat ((b.toNat:Int).toNat)=b;rw[il];exact UInt8.ofNat_toNat
    cases hA:qf (qaT u)with
    |mk a=>
      rw[hA]at this;cases u with
      |mk b=>exact congrArg ByteArray.mk (js.1 this)
  have q5:=R (by decide);refine⟨y1,e1,?_,rfl,⟨⟨p1,a3 (by decide)⟩,⟨Y,Z (by decide)⟩,qoO (qgJ u) y,?_,by dsimp only;omega,by dsimp only;omega,O,by dsimp only;omega,hr⟩⟩
  · unfold qck
    dsimp only;rw[C,a4,a1,X,V,T,Q,L,J,<-N];simp only[ie]
  · dsimp only
    rw[C];exact⟨by show(((qaT u).length:Nat):Int).toNat=_;omega,y⟩
def qbF (T:TS):List Bool:=[T.wrap,T.origin,T.insert,T.hidden,T.alt,T.draw0,T.draw1,T.shift]
def qa0 (T:TS):List Int:=qv T.grid.w.toNat++(qv T.grid.h.toNat++(qv T.top.toNat++(qv T.bot.toNat++(qv (qac (qbF T))++(qv (qaj T.tabs 60)++(qeh T.cursor++(qeh T.saved++(qeh T.away++
  (T.grid.lines.flatMap qa7++(T.other.lines.flatMap qa7++(qv T.back.length++(qbU T.back++(qbt T.title++(qbt T.reply++qck T.parser))))))))))))))
def qfT (tb k:Nat)(i:Nat):Bool:=if i<k then qeo tb i else qix 7 i
def qfU (w h top bot n tb:Int):TS:={startT zeroT w h with top:=top,bot:=bot,wrap:=qeo n.toNat 0,origin:=qeo n.toNat 1,insert:=qeo n.toNat 2,hidden:=qeo n.toNat 3,alt:=qeo n.toNat 4,draw0:=qeo n.toNat 5,draw1:=qeo n.toNat 6,shift:=qeo n.toNat 7,tabs:=qfT tb.toNat 60}
def qk4 (T:TS)(W H:Int)(s:RS):Option TS:=
  let a:=qj7 W H s
  let b:=qj7 W H a.2.2
  let c:=qj7 W H b.2.2
  let d:=qam W H.toNat [] c.2.2 ((a.2.1&&b.2.1)&&c.2.1)
  let e:=qam W H.toNat [] d.2.1 d.2.2
  let k:=qfS e.2.1 e.2.2
  let t:=qbb 40 k.2.1
  let r:=qbb 400 t.2
  let p:=qiN r.2 k.2.2
  if p.2.2=true/\p.2.1=some []then some {T with cursor:=a.1,saved:=b.1,away:=c.1,grid:=⟨W,H,d.1⟩,other:=⟨W,H,e.1⟩,back:=k.1,title:=t.1,reply:=r.1,parser:=p.1}else none
def qiO (s:RS):Option TS×RS:=
  let w:=qP 61 s
  let h:=qP 61 w.2
  let a:=qP (h.1+1) h.2
  let b:=qP (h.1+1) a.2
  let n:=qP 256 b.2
  let t:=qP 1152921504606846976 n.2
  if t.2.isSome=false\/w.1<1\/h.1<1\/b.1<=a.1 then(none,t.2)else(some (qfU w.1 h.1 a.1 b.1 n.1 t.1),t.2)
theorem qd4 {s s1 s2 s3 s4 s5 s6:RS}{w v a b n t:Int}(h1:qP 61 s=(w,s1))(h2:qP 61 s1=(v,s2))(h3:qP (v+1) s2=(a,s3))(h4:qP (v+1) s3=(b,s4))(h5:qP 256 s4=(n,s5))(h6:qP 1152921504606846976 s5=(t,s6)):
    qiO s=if s6.isSome=false\/w<1\/v<1\/b<=a then(none,s6)else(some (qfU w v a b n t),s6):=by
  unfold qiO;rw[h1];dsimp only;rw[h2];dsimp only;rw[h3];dsimp only;rw[h4];dsimp only;rw[h5];dsimp only;rw[h6]
def qmc (s:RS):Option TS:=match qiO s with
  |(none,_)=>none
  |(some T,s1)=>qk4 T T.grid.w T.grid.h s1
structure DecOk (T:TS):Prop where
  w:1<=T.grid.w/\T.grid.w<=60
  h:1<=T.grid.h/\T.grid.h<=60
  o:T.other.w=T.grid.w/\T.other.h=T.grid.h
  t:0<=T.top/\T.top<T.bot/\T.bot<=T.grid.h
  c:CurOk T.grid.w T.grid.h T.cursor
  s:CurOk T.grid.w T.grid.h T.saved
  a:CurOk T.grid.w T.grid.h T.away
  g:T.grid.lines.length=T.grid.h.toNat/\ ∀l∈T.grid.lines,(l.length:Int)=T.grid.w/\qb6 l=true/\ ∀c∈l,cOk c
  g2:T.other.lines.length=T.grid.h.toNat/\ ∀l∈T.other.lines,(l.length:Int)=T.grid.w/\qb6 l=true/\ ∀c∈l,cOk c
  k:T.back.length<=20/\ ∀l∈T.back,0<l.length/\l.length<=60/\qb6 l=true/\ ∀c∈l,cOk c
  ti:T.title.size<=40
  r:T.reply.size<=400
  p:ParsOk T.parser
theorem qnB {T T':TS}{W H:Int}{s:RS}(hs:rsB s)(hW:1<=W/\W<=60)(hH:1<=H/\H<=60)(ht:0<=T.top/\T.top<T.bot/\T.bot<=H)(h:qk4 T W H s=some T'):∃ys,s=some ys/\
    ys=qeh T'.cursor++(qeh T'.saved++(qeh T'.away++(T'.grid.lines.flatMap qa7++(T'.other.lines.flatMap qa7++(qv T'.back.length++(qbU T'.back++(qbt T'.title++(qbt T'.reply++qck T'.parser))))))))/\DecOk T'/\T'.grid.w=W/\T'.grid.h=H/\T'.top=T.top/\T'.bot=T.bot/\qbF T'=qbF T/\T'.tabs=T.tabs:=by
  obtain⟨a,ha,i,j⟩:∃a o i,qj7 W H s=(a,o,i):=⟨_,_,_,rfl⟩
  obtain⟨b,hb,M,l⟩:∃a o s',qj7 W H i=(a,o,s'):=⟨_,_,_,rfl⟩
  obtain⟨c,hc,N,m⟩:∃a o s',qj7 W H M=(a,o,s'):=⟨_,_,_,rfl⟩
  obtain⟨d,O,f4,n⟩:∃d s' f,qam W H.toNat [] N ((ha&&hb)&&hc)=(d,s',f):=⟨_,_,_,rfl⟩
  obtain⟨e,g,f5,q⟩:∃d s' f,qam W H.toNat [] O f4=(d,s',f):=⟨_,_,_,rfl⟩
  obtain⟨k,u,f6,v⟩:∃d s' f,qfS g f5=(d,s',f):=⟨_,_,_,rfl⟩
  obtain⟨t,P,x⟩:∃d s',qbb 40 u=(d,s'):=⟨_,_,rfl⟩
  obtain⟨r,Q,y⟩:∃d s',qbb 400 P=(d,s'):=⟨_,_,rfl⟩
  obtain⟨p,s9,f9,F⟩:∃d s' f,qiN Q f6=(d,s',f):=⟨_,_,_,rfl⟩
  unfold qk4 at h;rw[j]at h;dsimp only at h;rw[l]at h;dsimp only at h;rw[m]at h;dsimp only at h;rw[n]at h;dsimp only at h;rw[q]at h;dsimp only at h;rw[v]at h;dsimp only at h;rw[x]at h;dsimp only at h;rw[y]at h;dsimp only at h;rw[F]at h;dsimp only at h;split at h
  · rename_i hz
    obtain⟨rfl,rfl⟩:=hz;obtain rfl:=ia h;have z:=qgO (W:=W) (H:=H) hs;rw[j]at z;have A:=qgO (W:=W) (H:=H) z;rw[l]at A;have B:=qgO (W:=W) (H:=H) A;rw[m]at B;have C:=qbH (W:=W) H.toNat (out:=[]) (f:=(ha&&hb)&&hc) B;rw[n]at C;have D:=qbH (W:=W) H.toNat (out:=[]) (f:=f4) C;rw[q]at D;have G:rsB u:=by have:=qhX (qP 21 g).1.toNat (out:=[]) (f:=f5) (qF (lim:=21) D);have e:qeg (qP 21 g).1.toNat [] (qP 21 g).2 f5=(k,u,f6):=v;rw[e]at this;exact this
    have E:=qdW (most:=40) G;rw[x]at E;have I:=qdW (most:=400) E;rw[y]at I;obtain⟨y9,R,S,rfl,hp⟩:=qnA I F;subst R;obtain⟨y8,U,V,hr⟩:=qcQ E y (by decide);subst U;obtain⟨y7,X,Y,ay⟩:=qcQ G x (by decide);subst X;obtain⟨y6,z6,Z,e6,a1,a2,a3,a4⟩:=qny D v rfl;subst Z e6;obtain rfl:=ia a1;obtain⟨M2,y5,z5,a5,J,e5,a7,a8,a9,aa⟩:=qd3 (by omega) _ C (.inr (by omega)) q;rw[iO]at J;subst J a5 e5;obtain rfl:=ia a7;obtain⟨M1,y4,z4,K,L,e4,ac,ad,ae,af⟩:=qd3 (by omega) _ B (.inr (by omega)) n;rw[iO]at L;subst L e4;obtain rfl:=ia ac;rw[ii,ii]at K;obtain⟨⟨rfl,rfl⟩,rfl⟩:=K;obtain⟨y3,z3,e3,ah,ai,aj⟩:=qgP A (by omega) (by omega) m;subst e3;obtain rfl:=ia ah;obtain⟨y2,z2,e2,al,am,an⟩:=qgP z (by omega) (by omega) l;subst e2;obtain rfl:=ia al;obtain⟨y1,z1,e1,ap,aq,ar⟩:=qgP hs (by omega) (by omega) j;obtain rfl:=ia ap;refine⟨y1,e1,?_,⟨hW,hH,⟨rfl,rfl⟩,ht,ar,an,aj,⟨ae,af⟩,⟨a9,aa⟩,⟨a3,a4⟩,by dsimp only;omega,by dsimp only;omega,hp⟩,rfl,rfl,rfl,rfl,rfl,rfl⟩;dsimp only;rw[aq,am,ai,ad,a8,a2,Y,V,S,iH]
  · cases h
theorem qk5 {s:RS}{T:TS}(hs:rsB s)(h:qmc s=some T):∃ys,s=some ys/\ys=qa0 T/\DecOk T:=by
  obtain⟨w,A,e⟩:∃d s',qP 61 s=(d,s'):=⟨_,_,rfl⟩
  obtain⟨v,B,f⟩:∃d s',qP 61 A=(d,s'):=⟨_,_,rfl⟩
  obtain⟨a,C,g⟩:∃d s',qP (v+1) B=(d,s'):=⟨_,_,rfl⟩
  obtain⟨b,E,j⟩:∃d s',qP (v+1) C=(d,s'):=⟨_,_,rfl⟩
  obtain⟨n,F,k⟩:∃d s',qP 256 E=(d,s'):=⟨_,_,rfl⟩
  obtain⟨t,s6,l⟩:∃d s',qP 1152921504606846976 F=(d,s'):=⟨_,_,rfl⟩
  unfold qmc at h;rw[qd4 e f g j k l]at h;split at h
  · cases h
  · rename_i T0 s7 c
    split at c
    · cases c
    rename_i hc;simp only[ib,ij]at c;obtain⟨rfl,rfl⟩:=c;simp only[not_or]at hc;obtain⟨c1,c2,c3,c4⟩:=hc;have m:=qF (lim:=61) hs;rw[e]at m;have o:=qF (lim:=61) m;rw[f]at o;have p:=qF (lim:=v+1) o;rw[g]at p;have q:=qF (lim:=v+1) p;rw[j]at q;have r:=qF (lim:=256) q;rw[k]at r;have D:=qF (lim:=1152921504606846976) r;rw[l]at D;have u:=qaa (lim:=61) (s:=s);rw[e]at u;have x:=qaa (lim:=61) (s:=A);rw[f]at x;have G:=u.2.2 (by decide);have H:=x.2.2 (by decide);dsimp only at u x G H;have y:=qaa (lim:=v+1) (s:=B);rw[g]at y;have z:=qaa (lim:=v+1) (s:=C);rw[j]at z;have I:=y.2.2 (by omega);have J:=z.2.2 (by omega);dsimp only at y z I J;have K:(qfU w v a b n t).grid.w=w:=by show qj w=w;unfold qj;omega
    have L:(qfU w v a b n t).grid.h=v:=by show qj v=v;unfold qj;omega
    rw[K,L]at h;obtain⟨y6,M,N,hd,O,P,Q,R,S,U⟩:=qnB D (by omega) (by omega) (by show 0<=a/\a<b/\b<=v;omega) h;subst M;obtain⟨y5,V,W,p5,_,X⟩:=qa9 r l;subst V;obtain⟨y4,Y,Z,p4,_,a0⟩:=qa9 q k;subst Y;obtain⟨y3,e3,a4,_⟩:=qa9 p j;subst e3;obtain⟨y2,e2,a6,_⟩:=qa9 o g;subst e2;obtain⟨y1,e1,a8,_⟩:=qa9 m f;subst e1;obtain⟨y0,c,aa,_⟩:=qa9 hs e;refine⟨y0,c,?_,hd⟩;have q4:=a0 (by decide);have q5:=X (by decide);have m1:qac (qbF T)=n.toNat:=by
      rw[S];have:qac (qbF (qfU w v a b n t))=qaj (qeo n.toNat) 8:=qcz fun i hi=>by
        have:i=0\/i=1\/i=2\/i=3\/i=4\/i=5\/i=6\/i=7:=by have:i<8:=hi;omega
        rcases this with rfl|rfl|rfl|rfl|rfl|rfl|rfl|rfl<;>rfl
      rw[this,qfu];exact jW (by omega)
    have m2:qaj T.tabs 60=t.toNat:=by
      rw[U];have:qaj (qfU w v a b n t).tabs 60=qaj (qeo t.toNat) 60:=qcz fun i hi=>by show(if i<60 then _ else _)=_;rw[if_pos hi]
      rw[this,qfu];exact jW (by omega)
    unfold qa0;rw[m1,m2,O,P,Q,R,aa,a8,a6,a4,Z,W,N];rfl
theorem qab {lim:Int}{n:Nat}(r:List Int)(h:n<2^63)(hl:0<lim->(n:Int)<lim):qP lim (some (qv n++r))=((n:Int),some r):=by
 rw[qP,qjX r (by omega)];dsimp only;have a:¬(qv n).length=0:=fun e=>qph 9 n (iy e);rw[if_neg (by rintro (h|h|h);exact a h;omega;have:=hl h.1;omega),List.drop_left' rfl]
theorem qcT {most:Int}{x:ByteArray}(r:List Int)(h0:0<most/\most<=1000000)(h:(x.size:Int)<=most):qbb most (some (qbt x++r))=(qf (qaT x),some r):=by
 unfold qbb qbt;rw[if_pos h0.1,ie,qab _ (by omega) (fun _=>by omega)];dsimp only;have hl:=qeU x;rw[if_neg (by rw[hJ];omega),il,<-hl,List.take_left' rfl,List.drop_left' rfl]
theorem qdC (x:ByteArray):qf (qaT x)=x:=by
 have:(qf (qaT x)).data.toList=x.data.toList:=by
  rw[qcy];unfold qaT;rw[jB];refine(jA fun b _=>?_).trans (List.map_id _);show UInt8.ofNat ((b.toNat:Int).toNat)=b;rw[il];exact UInt8.ofNat_toNat
 cases hA:qf (qaT x)with
 |mk a=>
  rw[hA]at this;cases x with
  |mk b=>exact congrArg ByteArray.mk (js.1 this)
theorem qmd {s:Sty}(r:List Int)(h:qD s=true):qgL (some (qv (qbG s)++r))=(s,true,some r):=by
 have hb:=qeV h;unfold qgL;rw[qab r (by omega) (fun _=>by omega)];dsimp only;rw[il,ql6 s h,if_pos (by rw[h];rfl)]
theorem qiP {W H:Int}{c:Cur}(r:List Int)(hc:CurOk W H c)(hW:W<=60)(hH:H<=60):qj7 W H (some (qeh c++r))=(c,true,some r):=by
 obtain⟨x,y,l,s⟩:=c;obtain⟨hx,hy,hl,hs⟩:=hc;dsimp only at hx hy hl hs;have a:qP W (some (qeh ⟨x,y,l,s⟩++r))=(x,some (qv y.toNat++(qv (qac [l])++(qv (qbG s)++r)))):=by
  unfold qeh;simp only[ie];rw[qab _ (by omega) (fun _=>by omega),j8 hx.1]
 have b:qP H (some (qv y.toNat++(qv (qac [l])++(qv (qbG s)++r))))=(y,some (qv (qac [l])++(qv (qbG s)++r))):=by
  rw[qab _ (by omega) (fun _=>by omega),j8 hy.1]
 have hf:qac [l]=if l=true then 1 else 0:=by cases l<;>rfl
 have d:qP 2 (some (qv (qac [l])++(qv (qbG s)++r)))=(((qac [l]:Nat):Int),some (qv (qbG s)++r)):=qab _ (by rw[hf];split<;>omega) (fun _=>by rw[hf];split<;>omega);rw[qfw a b d (qmd r hs)];have e:(((qac [l]:Nat):Int)==1)=l:=by rw[hf];cases l<;>rfl
 rw[e];cases l with
 |false=>rfl
 |true=>
  have:=hl rfl;rw[this];simp
theorem qeZ (c:Cel):∀(l:List Cel),∃n r,c::l=List.replicate (n+1) c++r/\r.head? ≠some c
 |[]=>⟨0,[],rfl,by simp⟩
 |d::l=>by
  by_cases h:d=c
  ·subst h
   obtain⟨n,r,e,hr⟩:=qeZ d l
   exact⟨n+1,r,by rw[List.replicate_succ,List.cons_append,<-e],hr⟩
  ·exact⟨0,d::l,rfl,by simp[h]⟩
theorem qk6:∀(f:Nat) (W:Int) (out l:List Cel) (r:List Int),(∀c∈l,cOk c)->((out.length+l.length:Nat):Int)=W->W<=1000->l.length<=f->(l=[]\/out.getLast? ≠l.head?)->qc0 f W out (some (qa7 l++r))=(some (out++l),some r)
 |f,W,out,[],r,_,hW,_,_,_=>by
  rw[qcR (by simp at hW;omega),iH];rfl
 |0,W,out,c::l,r,_,_,_,hf,_=>by simp at hf
 |f+1,W,out,c::l,r,hc,hW,hW2,hf,hne=>by
  obtain⟨n,l',e,hl'⟩:=qeZ c l
  have hlen:(c::l).length=(n+1)+l'.length:=by rw[e,hJ,iu]
  have a:=hc c (jd ..)
  obtain⟨b,g,q⟩:=a
  have i:out.getLast? ≠some c:=hne.resolve_left (by simp)
  rw[e,qdz hl' n]
  have j:¬W<=(out.length:Int):=by rw[hlen]at hW;omega
  have k:(0:Int)<W-(out.length:Int)+1->(((n+1:Nat)):Int)<W-(out.length:Int)+1:=fun _=>by rw[hlen]at hW;omega
  have m:qP (W-(out.length:Int)+1) (some ((qdy (n+1) c++qa7 l')++r))=(((n+1:Nat):Int),some (qv c.rune.toNat++(qv (qbG c.sty)++(qa7 l'++r)))):=by
   unfold qdy;simp only[ie];exact qab _ (by rw[hlen]at hW;omega) k
  have o:qP 1114112 (some (qv c.rune.toNat++(qv (qbG c.sty)++(qa7 l'++r))))=(c.rune,some (qv (qbG c.sty)++(qa7 l'++r))):=by
   rw[qab _ (by omega) (fun _=>by omega),j8 g]
  have p:=qmd (qa7 l'++r) b;have hS:=qcA (W:=W) (out:=out) m o p;rw[if_neg (by rintro (h|h|h);cases h;omega;exact i h)]at hS;rw[qc0,if_neg j,hS];dsimp only;rw[il];have ih:=qk6 f W (out++List.replicate (n+1) c) l' r (fun d hd=>hc d (by rw[e];exact kd _ hd)) (by rw[hJ,iu];rw[hlen]at hW;omega) hW2 (by omega) (by
   cases l' with
   |nil=>exact .inl rfl
   |cons d l'=>
    right;have:(out++List.replicate (n+1) c).getLast? =some c:=by rw[jL,<-ie,List.getLast?_append];rfl
    rw[this];exact fun h=>hl' h.symm)
  rw[show(⟨c.rune,c.sty⟩:Cel)=c from rfl,ih,ie]
theorem qpu {W:Int}{l:List Cel}(r:List Int)(hc:∀c∈l,cOk c)(hl:(l.length:Int)=W)(hW:W<=1000)(hw:qb6 l=true):qdA W (some (qa7 l++r))=(l,true,some r):=by
 have:=qk6 W.toNat W [] l r hc (by simpa using hl) hW (by omega) (by
  cases l with
  |nil=>exact .inl rfl
  |cons c l=>exact .inr (by simp))
 unfold qdA;rw[this,iO];dsimp only;rw[if_pos hw]
def LnOk (W:Int)(l:List Cel):Prop:=(l.length:Int)=W/\qb6 l=true/\ ∀c∈l,cOk c
theorem qdX {W:Int}(hW:W<=1000):∀(L out:List (List Cel)) (r:List Int),(∀l∈L,LnOk W l)->qam W L.length out (some (L.flatMap qa7++r)) true=(out++L,some r,true)
 |[],out,r,_=>by rw[iH];rfl
 |l::L,out,r,h=>by
  obtain⟨h1,h2,h3⟩:=h l (jd ..)
  rw[iz,qam,jj,ie,qpu _ h3 h1 hW h2]
  dsimp only
  rw[if_pos (show(true&&true)=true from rfl),qdX hW L _ r (fun m hm=>h m (j6 _ hm)),ie]
  rfl
theorem qk7:∀(B out:List (List Cel)) (r:List Int),(∀l∈B,0<l.length/\l.length<=60/\qb6 l=true/\ ∀c∈l,cOk c)->qeg B.length out (some (qbU B++r)) true=(out++B,some r,true)
 |[],out,r,_=>by rw[iH];rfl
 |l::B,out,r,h=>by
  obtain⟨h0,h1,h2,h3⟩:=h l (jd ..)
  have e:qbU (l::B)++r=qv l.length++(qa7 l++(qbU B++r)):=by unfold qbU;simp
  have b:=qab (lim:=61) (n:=l.length) (qa7 l++(qbU B++r)) (by omega) (fun _=>by omega)
  have a:=qdX (W:=(l.length:Int)) (by omega) [l] [] (qbU B++r) (fun m hm=>by rw[iA.1 hm];exact⟨rfl,h2,h3⟩)
  have d:[l].flatMap qa7++(qbU B++r)=qa7 l++(qbU B++r):=by simp
  rw[d]at a
  rw[e,iz,qeg,b]
  dsimp only
  rw[show qam (l.length:Int) 1 [] (some (qa7 l++(qbU B++r))) true=_ from a]
  dsimp only
  rw[if_pos (by rw[j1 (show(0:Int)<(l.length:Int) by omega)];rfl),qk7 B _ r (fun m hm=>h m (j6 _ hm))]
  simp
theorem qpv {B:List (List Cel)}(r:List Int)(hB:B.length<=20)(h:∀l∈B,0<l.length/\l.length<=60/\qb6 l=true/\ ∀c∈l,cOk c):qfS (some (qv B.length++(qbU B++r))) true=(B,some r,true):=by
 unfold qfS;rw[qab _ (by omega) (fun _=>by omega)];dsimp only;rw[il,qk7 B [] r h];rfl
theorem qk8:∀(q l:List Int) (r:List Int),(∀x∈q,0<=x/\x<=9999)->qeY q.length l (some (q.flatMap (fun n=>qv n.toNat)++r))=(l++q,some r)
 |[],l,r,_=>by rw[iH];rfl
 |x::q,l,r,h=>by
  have hx:=h x (jd ..)
  rw[iz,qeY,jj,ie,qab _ (by omega) (fun _=>by omega)]
  dsimp only
  rw[j8 hx.1,qk8 q _ r (fun y hy=>h y (j6 _ hy)),ie]
  rfl
theorem qpw {u:US}(h:utB u=true)(ho:u.ok):mkU u.pend=u:=by
 obtain⟨a,b,c,n⟩:=u;unfold utB at h;simp only[ii,ip]at h;obtain⟨⟨⟨d,e⟩,hz⟩,_⟩:=h;have hn:n=0\/n=1\/n=2\/n=3:=by omega
 unfold mkU US.pend;rcases hn with rfl|rfl|rfl|rfl
 ·simp at hz⊢;omega
 ·simp at hz⊢;omega
 ·simp at hz⊢;omega
 ·simp
theorem qpx {p:PS}(h:qG p=true):utB p.utf=true:=by
 unfold qG at h;split at h
 ·cases h
 ·rename_i a
  split at h
  ·simp only[ii]at h
   exact h.1.1
  ·rename_i b
   have hb:qcS p.utf=true:=by
    cases e:qcS p.utf with
    |true=>rfl
    |false=>exact absurd (.inr ⟨b,e⟩) a
   unfold qcS at hb;simp only[ii,iU]at hb;obtain⟨⟨⟨c,d⟩,f⟩,g⟩:=hb;unfold utB US.pend;rw[c,d,f,g];decide
theorem qpy {p:PS}(r:List Int)(h:ParsOk p):qiN (some (qck p++r)) true=(p,some r,true):=by
 obtain⟨st,u,m,q,x,wi⟩:=p;obtain⟨b,c,a,j,k,l,d,o,e⟩:=h;dsimp only at b c a j k l d o;have s:mkU u.pend=u:=qpw (qpx e) a;have A:(qf u.pend).size=u.pend.length:=qb7 _;have t:qaT (qf u.pend)=u.pend:=qgK a.pend;have v:qP 8 (some (qck ⟨st,u,m,q,x,wi⟩++r))=(st,some (qv wi.toNat++(qbt (qf u.pend)++(qbt m++(qv q.length++(q.flatMap (fun n=>qv n.toNat)++(qbt x++r))))))):=by
  unfold qck;simp only[ie];rw[qab _ (by omega) (fun _=>by omega),j8 b.1]
 have w:qP 8 (some (qv wi.toNat++(qbt (qf u.pend)++(qbt m++(qv q.length++(q.flatMap (fun n=>qv n.toNat)++(qbt x++r)))))))=(wi,some (qbt (qf u.pend)++(qbt m++(qv q.length++(q.flatMap (fun n=>qv n.toNat)++(qbt x++r)))))):=by
  rw[qab _ (by omega) (fun _=>by omega),j8 c.1]
 have f:=qcT (most:=3) (x:=qf u.pend) (qbt m++(qv q.length++(q.flatMap (fun n=>qv n.toNat)++(qbt x++r)))) (by decide) (by omega);have g:=qcT (most:=2) (x:=m) (qv q.length++(q.flatMap (fun n=>qv n.toNat)++(qbt x++r))) (by decide) (by omega);have y:=qab (lim:=9) (n:=q.length) (q.flatMap (fun n=>qv n.toNat)++(qbt x++r)) (by omega) (fun _=>by omega);have z:=qk8 q [] (qbt x++r) d;have i:=qcT (most:=40) (x:=x) r (by decide) (by omega);rw[qdC]at f g i;rw[qgc v w f g y (by rw[il];exact z) i,t,s,iO,e];rfl
theorem qpz {T T':TS}{W H:Int}(r:List Int)(h:DecOk T')(hW:T'.grid.w=W)(hH:T'.grid.h=H):
  qk4 T W H (some ((qeh T'.cursor++(qeh T'.saved++(qeh T'.away++(T'.grid.lines.flatMap qa7++(T'.other.lines.flatMap qa7++(qv T'.back.length++(qbU T'.back++(qbt T'.title++(qbt T'.reply++qck T'.parser)))))))))++r))=
   if r=[]then some {T with cursor:=T'.cursor,saved:=T'.saved,away:=T'.away,grid:=T'.grid,other:=T'.other,back:=T'.back,title:=T'.title,reply:=T'.reply,parser:=T'.parser}else none:=by
 obtain⟨dw,dh,⟨f,g⟩,dt,dc,ds,da,dg,a,dk,n,dr,dp⟩:=h;subst hW hH;have i:=qiP (qeh T'.saved++(qeh T'.away++(T'.grid.lines.flatMap qa7++(T'.other.lines.flatMap qa7++(qv T'.back.length++(qbU T'.back++(qbt T'.title++(qbt T'.reply++(qck T'.parser++r))))))))) dc dw.2 dh.2;have j:=qiP (qeh T'.away++(T'.grid.lines.flatMap qa7++(T'.other.lines.flatMap qa7++(qv T'.back.length++(qbU T'.back++(qbt T'.title++(qbt T'.reply++(qck T'.parser++r)))))))) ds dw.2 dh.2;have k:=qiP (T'.grid.lines.flatMap qa7++(T'.other.lines.flatMap qa7++(qv T'.back.length++(qbU T'.back++(qbt T'.title++(qbt T'.reply++(qck T'.parser++r))))))) da dw.2 dh.2;have b:=qdX (W:=T'.grid.w) (by omega) T'.grid.lines [] (T'.other.lines.flatMap qa7++(qv T'.back.length++(qbU T'.back++(qbt T'.title++(qbt T'.reply++(qck T'.parser++r)))))) dg.2;have c:=qdX (W:=T'.grid.w) (by omega) T'.other.lines [] (qv T'.back.length++(qbU T'.back++(qbt T'.title++(qbt T'.reply++(qck T'.parser++r))))) a.2;have l:=qpv (B:=T'.back) (qbt T'.title++(qbt T'.reply++(qck T'.parser++r))) dk.1 dk.2;have d:=qcT (most:=40) (x:=T'.title) (qbt T'.reply++(qck T'.parser++r)) (by decide) (by omega);have e:=qcT (most:=400) (x:=T'.reply) (qck T'.parser++r) (by decide) (by omega);have m:=qpy r dp;rw[qdC]at d e
 rw[dg.1]at b;rw[a.1]at c;simp only[ie];unfold qk4;rw[i];dsimp only;rw[j];dsimp only;rw[k];dsimp only;rw[show((true&&true)&&true)=true from rfl,b];dsimp only;rw[c];dsimp only;rw[l];dsimp only;rw[d];dsimp only;rw[e];dsimp only;rw[m];dsimp only;rw[iO,iO];have eg:(⟨T'.grid.w,T'.grid.h,T'.grid.lines⟩:Gr)=T'.grid:=rfl;have eo:(⟨T'.grid.w,T'.grid.h,T'.other.lines⟩:Gr)=T'.other:=by
  rw[<-f,<-g]
 rw[eg,eo];by_cases hr:r=[]
 ·rw[if_pos hr,if_pos ⟨rfl,by rw[hr]⟩]
 ·rw[if_neg hr,if_neg (by rintro ⟨_,h⟩;exact hr (ia h))]
def qpA (T:TS):TS:={T with tabs:=qfT (qaj T.tabs 60) 60}
theorem qei (f:Nat->Bool):∀(k i:Nat),i<k->qeo (qaj f k) i=f i
 |0,i,h=>by omega
 |k+1,i,h=>by
  have hlt:=qbA f k
  rw[qaj]
  unfold qeo
  by_cases hi:i=k
  ·subst hi
   cases hf:f i with
   |true=>
    rw[if_pos rfl,Nat.add_div_right _ (Nat.pow_pos (by decide)),Nat.div_eq_of_lt hlt];rfl
   |false=>
    simp only[iv,↓reduceIte,Nat.add_zero]
    rw[Nat.div_eq_of_lt hlt];rfl
  ·have ih:=qei f k i (by omega)
   unfold qeo at ih
   rw[<-ih]
   split
   ·have e:2^k=2^i*(2*2^(k-i-1)):=by
     rw[<-Nat.pow_succ',<-Nat.pow_add];congr 1;omega
    rw[e,Nat.add_mul_div_left _ _ (Nat.pow_pos (by decide)),Nat.add_mul_mod_self_left]
   ·rw[Nat.add_zero]
theorem decT_put {T:TS}(h:DecOk T)(r:List Int):qmc (some (qa0 T++r))=if r=[]then some (qpA T)else none:=by
 have hw:=h.w;have hh:=h.h;have ht:=h.t;have l:qac (qbF T)<2^8:=qbA _ 8;have m:=qbA T.tabs 60;have e:qa0 T++r=qv T.grid.w.toNat++(qv T.grid.h.toNat++(qv T.top.toNat++(qv T.bot.toNat++(qv (qac (qbF T))++(qv (qaj T.tabs 60)++((qeh T.cursor++(qeh T.saved++(qeh T.away++(T.grid.lines.flatMap qa7++(T.other.lines.flatMap qa7++(qv T.back.length++(qbU T.back++(qbt T.title++(qbt T.reply++qck T.parser)))))))))++r)))))):=by
  unfold qa0;simp only[ie]
 rw[e];generalize hR:(qeh T.cursor++(qeh T.saved++(qeh T.away++(T.grid.lines.flatMap qa7++(T.other.lines.flatMap qa7++(qv T.back.length++(qbU T.back++(qbt T.title++(qbt T.reply++qck T.parser)))))))))++r=R;have a:=qab (lim:=61) (n:=T.grid.w.toNat) (qv T.grid.h.toNat++(qv T.top.toNat++(qv T.bot.toNat++(qv (qac (qbF T))++(qv (qaj T.tabs 60)++R))))) (by omega) (fun _=>by omega);have b:=qab (lim:=61) (n:=T.grid.h.toNat) (qv T.top.toNat++(qv T.bot.toNat++(qv (qac (qbF T))++(qv (qaj T.tabs 60)++R)))) (by omega) (fun _=>by omega);have c:=qab (lim:=T.grid.h+1) (n:=T.top.toNat) (qv T.bot.toNat++(qv (qac (qbF T))++(qv (qaj T.tabs 60)++R))) (by omega) (fun _=>by omega);have d:=qab (lim:=T.grid.h+1) (n:=T.bot.toNat) (qv (qac (qbF T))++(qv (qaj T.tabs 60)++R)) (by omega) (fun _=>by omega);have f:=qab (lim:=256) (n:=qac (qbF T)) (qv (qaj T.tabs 60)++R) (by omega) (fun _=>by omega);have g:=qab (lim:=1152921504606846976) (n:=qaj T.tabs 60) R (by omega) (fun _=>by omega);rw[j8 (by omega)]at a b c d;unfold qmc;rw[qd4 a b c d f g,if_neg (by rintro (h|h|h|h);cases h;omega;omega;omega)];dsimp only;have j:(qfU T.grid.w T.grid.h T.top T.bot ((qac (qbF T):Nat):Int) ((qaj T.tabs 60:Nat):Int)).grid.w=T.grid.w:=by show qj T.grid.w=_;unfold qj;omega
 have k:(qfU T.grid.w T.grid.h T.top T.bot ((qac (qbF T):Nat):Int) ((qaj T.tabs 60:Nat):Int)).grid.h=T.grid.h:=by show qj T.grid.h=_;unfold qj;omega
 rw[j,k,<-hR,qpz r h rfl rfl];have hm:∀i,i<8->qeo (qac (qbF T)) i=lb (qbF T) i:=fun i hi=>qei _ 8 i hi;by_cases hr:r=[]
 ·rw[if_pos hr,if_pos hr]
  refine congrArg some ?_;unfold qfU qpA;simp only[il];rw[hm 0 (by decide),hm 1 (by decide),hm 2 (by decide),hm 3 (by decide),hm 4 (by decide),hm 5 (by decide),hm 6 (by decide),hm 7 (by decide)];rfl
 ·rw[if_neg hr,if_neg hr]
theorem qme:zb ByteArray.empty=true:=beq_self_eq_true _
theorem ql7 {n:Nat}{p:Nat->Bool}(h:∀i,i<n->p i=true):(List.range n).all p=true:=j3.2 fun i hi=>h i (jz.1 hi)
theorem qpB {c:Int}(h:lowM c):qk3 c=true:=by unfold qk3;simp[h.1,h.2]
theorem qpC {c:Int}(h:wideM c):qbV c=true:=by
 unfold qbV;rcases h with h|h
 ·rw[qpB h];rfl
 ·simp[h.1,h.2]
theorem utB_of {u:US}(h:uR u):utB u=true:=by
 obtain⟨a,b,c,n⟩:=u;obtain⟨⟨i,j⟩,g,f,e,d⟩:=h;dsimp only at i j g f e d;have hn:n=0\/n=1\/n=2\/n=3:=by omega
 unfold utB;rcases hn with rfl|rfl|rfl|rfl
 ·rw[g (by decide),f (by decide),e (by decide)];decide
 ·rw[f (by decide),e (by decide)]at d⊢
  have:=d.resolve_left (by decide);simp[this]
 ·rw[e (by decide)]at d⊢
  have:=d.resolve_left (by decide);simp[this]
 ·have:=d.resolve_left (by decide)
  simp[this]
theorem qnC {p:PS}(h:PRight p)(hl:p.lim):qG p=true:=by
 have r:=h.st;have hb:p.state≠0->qcS p.utf=true:=fun e=>by rw[h.u e];decide
 have hm:p.state≠2->p.state≠3->p.state≠4->zb p.marks=true:=fun a b c=>by rw[h.m a b c];exact qme
 have hn:p.state≠3->p.state≠4->(p.params.length==0)=true:=fun a b=>by rw[h.n a b];rfl
 have ht:p.state<=4->zb p.text=true:=fun a=>by rw[h.t a];exact qme
 have hx:qdB p.text=true:=by
  unfold qdB;rw[ql7 fun i hi=>j1 (h.t5 i hi),j1 hl.t];rfl
 have hq:qgR p.params=true:=by
  unfold qgR;rw[j1 hl.n,k6];exact j3.2 fun x hx=>by have:=hl.b x hx;simp[this.1,this.2]
 have l:=h.wi;unfold qG qgQ;rw[if_neg (by
  rintro (⟨a,b⟩|⟨a,b⟩)
  ·exact b (l a)
  ·rw[hb a]at b;cases b)]
 by_cases j:p.state=0
 ·rw[if_pos j,utB_of h.u',hm (by omega) (by omega) (by omega),hn (by omega) (by omega),ht (by omega)];rfl
 rw[if_neg j];by_cases k:p.state=1
 ·rw[if_pos k,hm (by omega) (by omega) (by omega),hn (by omega) (by omega),ht (by omega)];rfl
 rw[if_neg k];by_cases d:p.state=2
 ·obtain⟨o,q⟩:=h.m2 d
  rw[if_pos d,hn (by omega) (by omega),ht (by omega)];unfold qbk;rw[j1 o,j1 hl.m,ql7 fun i hi=>qpB (q i hi)];rfl
 rw[if_neg d];by_cases f:p.state=3\/p.state=4
 ·rw[if_pos f,hq,ht (by omega)]
  unfold qbk;rw[j1 (ir _),j1 hl.m,ql7 fun i hi=>qpC (h.m3 f i hi)];rfl
 rw[if_neg f];by_cases g:p.state=7
 ·rw[if_pos g,if_neg (by have:=h.wc g;omega),hm (by omega) (by omega) (by omega),hn (by omega) (by omega),hx];rfl
 rw[if_neg g,if_pos (by omega),hm (by omega) (by omega) (by omega),hn (by omega) (by omega),hx];rfl
theorem qpD {p:PS}(h:PRight p)(hl:p.lim):ParsOk p:=by
 have a:=h.st;refine⟨by omega,?_,hl.u,⟨hl.u.len.symm,by rw[hl.u.len];have:=hl.u.n;omega⟩,hl.m,hl.n,hl.b,hl.t,qnC h hl⟩;by_cases e:p.state=7
 ·have:=h.wc e;omega
 ·have:=h.wi e;omega
theorem cOk_of {c:Cel}(h:celO c):cOk c:=by
 obtain⟨b,a⟩:=h;refine⟨b,?_⟩;rcases a with a|a
 ·omega
 ·unfold qbP at a
  simp only[ii,jx,ip,bne_iff_ne,ju,decide_eq_false_iff_not]at a;omega
theorem decOk_of {W H:Int}{T:TS}(h:Okt true W H T)(hp:PRight T.parser)(hl:T.parser.lim):DecOk T:=by
 obtain⟨⟨hW,hH,⟨j,k⟩,⟨f,g⟩,cu,sa,aw,tb,bk,rp⟩,hg,ho,hb,cs,cl,ss,sl,ay,al,ti⟩:=h;subst j k;have i:∀{G:Gr},okD G->G.w=T.grid.w-> ∀l∈G.lines,(l.length:Int)=T.grid.w/\qb6 l=true/\ ∀c∈l,cOk c:=fun hG e l a=>by
  have b:=hG.wid l a;have d:=hG.ok l a;exact⟨by rw[b];omega,d.2,fun c hc=>cOk_of (d.1 c hc)⟩
 refine⟨hW,hH,⟨f,g⟩,tb,⟨cu.1,cu.2,cl rfl,cs⟩,⟨sa.1,sa.2,sl,ss⟩,⟨aw.1,aw.2,al,ay⟩,⟨hg.len,i hg rfl⟩,⟨by rw[ho.len,g],i ho f⟩,⟨bk,fun l a=>?_⟩,ti,rp,qpD hp hl⟩;obtain⟨b,d,m⟩:=hb l a;exact⟨List.length_pos_iff.2 d,m,b.2,fun c hc=>cOk_of (b.1 c hc)⟩
theorem qp {n:Nat}(h:n<2^64):qat (qv n):=qjW 9 n (ic h (by decide))
theorem qdY {x:ByteArray}(h:x.size<2^64):qat (qbt x):=ql (qp h) (qgJ x)
theorem qdD {α:Type}{f:α->List Int}:∀{l:List α},(∀x∈l,qat (f x))->qat (l.flatMap f)
 |[],_=>fun x hx=>by cases hx
 |a::l,h=>by rw[jj];exact ql (h a (jd ..)) (qdD fun x hx=>h x (j6 _ hx))
theorem qpE {n:Nat}{c:Cel}(hn:n<2^64)(h:cOk c):qat (qdy n c):=by
 obtain⟨a,b,d⟩:=h;have:=qeV a;exact ql (qp hn) (ql (qp (by omega)) (qp (by omega)))
theorem qf0:∀(f:Nat) (l:List Cel),l.length<=f->f<2^60->(∀c∈l,cOk c)->qat (qa7 l)
 |_,[],_,_,_=>fun x hx=>by cases hx
 |0,c::l,hf,_,_=>by simp at hf
 |f+1,c::l,hf,hb,hc=>by
  obtain⟨n,l',e,hl'⟩:=qeZ c l
  have hlen:(c::l).length=(n+1)+l'.length:=by rw[e,hJ,iu]
  rw[e,qdz hl' n]
  exact ql (qpE (by omega) (hc c (jd ..))) (qf0 f l' (by omega) (by omega) fun d hd=>hc d (by rw[e];exact kd _ hd))
theorem qiQ {W H:Int}{c:Cur}(hc:CurOk W H c)(hW:W<=60)(hH:H<=60):qat (qeh c):=by
 obtain⟨b,d,e,a⟩:=hc;have:=qeV a;have:=qbA (fun i=>[c.late].getD i false) 1;exact ql (qp (by omega)) (ql (qp (by omega)) (ql (qp (by unfold qac;cases c.late<;>decide)) (qp (by omega))))
theorem qpF {p:PS}(h:ParsOk p):qat (qck p):=by
 obtain⟨b,c,d,e,f,g,a,i,j⟩:=h;have:=qb7 p.utf.pend;refine ql (qp (by omega)) (ql (qp (by omega)) (ql (qdY (by omega)) (ql (qdY (by omega)) (ql (qp (by omega)) (ql (qdD fun x hx=>?_) (qdY (by omega)))))));have:=a x hx;exact qp (by omega)
theorem qd5 {T:TS}(h:DecOk T):qat (qa0 T):=by
 obtain⟨dw,dh,⟨d,e⟩,dt,dc,ds,da,dg,c,dk,f,dr,dp⟩:=h;have g:qac (qbF T)<2^8:=qbA _ 8;have i:=qbA T.tabs 60;have j:(2:Nat)^60<2^64:=by decide
 refine ql (qp (by omega)) (ql (qp (by omega)) (ql (qp (by omega)) (ql (qp (by omega)) (ql (qp (by omega)) (ql (qp (by omega)) (ql (qiQ dc dw.2 dh.2) (ql (qiQ ds dw.2 dh.2) (ql (qiQ da dw.2 dh.2)
  (ql (qdD fun l hl=>?_) (ql (qdD fun l hl=>?_) (ql (qp (by have:=dk.1;omega)) (ql (qdD fun l hl=>?_) (ql (qdY (by omega)) (ql (qdY (by omega)) (qpF dp)))))))))))))))
 ·obtain⟨b,_,a⟩:=dg.2 l hl
  exact qf0 1000 l (by omega) (by omega) a
 ·obtain⟨b,_,a⟩:=c.2 l hl
  exact qf0 1000 l (by omega) (by omega) a
 ·obtain⟨k,b,_,a⟩:=dk.2 l hl
  exact ql (qp (by omega)) (qf0 1000 l (by omega) (by omega) a)
theorem qmf:∀(f n:Nat),(qhe f n).length<=f+1
 |0,n=>by simp[qhe]
 |f+1,n=>by
  rw[qhe]
  split
  ·simp
  ·have:=qmf f (n/128)
   rw[iz];omega
theorem qH (n:Nat):(qv n).length<=10:=qmf 9 n
theorem qfx (x:ByteArray):(qbt x).length<=10+x.size:=by
 unfold qbt;rw[hJ,qeU];have:=qH x.size;omega
theorem qgd {α:Type}{f:α->List Int}{c:Nat}:∀{l:List α},(∀x∈l,(f x).length<=c)->(l.flatMap f).length<=c*l.length
 |[],_=>by simp
 |a::l,h=>by
  rw[jj,hJ,iz,Nat.mul_succ]
  have h1:=h a (jd ..)
  have h2:=qgd (f:=f) (c:=c) fun x hx=>h x (j6 a hx)
  omega
theorem len_cell (n:Nat)(c:Cel):(qdy n c).length<=30:=by
 unfold qdy;rw[hJ,hJ];have a:=qH n;have b:=qH c.rune.toNat;have d:=qH (qbG c.sty);omega
theorem qiR:∀(f:Nat) (l:List Cel),l.length<=f->(qa7 l).length<=30*l.length
 |_,[],_=>by simp[qa7,qef]
 |0,c::l,hf=>by simp at hf
 |f+1,c::l,hf=>by
  obtain⟨n,l',e,hl'⟩:=qeZ c l
  have hlen:(c::l).length=(n+1)+l'.length:=by rw[e,hJ,iu]
  rw[e,qdz hl' n,hJ,<-e,hlen]
  have a:=len_cell (n+1) c
  have b:=qiR f l' (by omega)
  omega
theorem ql8 (c:Cur):(qeh c).length<=40:=by
 unfold qeh;simp only[hJ];have a:=qH c.x.toNat;have b:=qH c.y.toNat;have d:=qH (qac [c.late]);have e:=qH (qbG c.sty);omega
theorem qk9 {W:Int}{L:List (List Cel)}(hW:W<=60)(h:∀l∈L,(l.length:Int)=W/\qb6 l=true/\ ∀c∈l,cOk c):(L.flatMap qa7).length<=1800*L.length:=qgd fun l hl=>by
 have h1:=(h l hl).1
 have h2:=qiR l.length l (iE _)
 omega
theorem len_pars {p:PS}(h:ParsOk p):(qck p).length<=1000:=by
 obtain⟨c,d,i,f,j,k,g,l,m⟩:=h;have a:=qfx (qf p.utf.pend);have b:(p.params.flatMap fun n=>qv n.toNat).length<=10*p.params.length:=qgd fun n _=>qH n.toNat;rw[qb7]at a;have o:=f.2;have e:=j2 (qH p.state.toNat) (j2 (qH p.within.toNat) (j2 a (j2 (qfx p.marks) (j2 (qH p.params.length) (j2 b (qfx p.text))))));clear a b;unfold qck;rw[hJ,hJ,hJ,hJ,hJ,hJ];refine iq e ?_;clear e c d g;omega
theorem qcl {T:TS}(h:DecOk T):(qa0 T).length<=300000:=by
 obtain⟨dw,dh,⟨d,f⟩,dt,dc,ds,da,dg,a,dk,c,dr,dp⟩:=h;have b:(qbU T.back).length<=1810*T.back.length:=by
  unfold qbU;refine qgd fun l hl=>?_;have g:=(dk.2 l hl).2.1;rw[hJ];refine iq (j2 (qH l.length) (qiR l.length l (iE _))) ?_;omega
 have e:=j2 (qH T.grid.w.toNat) (j2 (qH T.grid.h.toNat) (j2 (qH T.top.toNat) (j2 (qH T.bot.toNat) (j2 (qH (qac (qbF T))) (j2 (qH (qaj T.tabs 60)) (j2 (ql8 T.cursor) (j2 (ql8 T.saved) (j2 (ql8 T.away)
  (j2 (qk9 dw.2 dg.2) (j2 (qk9 dw.2 a.2) (j2 (qH T.back.length) (j2 b (j2 (qfx T.title) (j2 (qfx T.reply) (len_pars dp)))))))))))))))
 clear b;have i:T.grid.lines.length<=60:=by have:=dg.1;omega
 have j:T.other.lines.length<=60:=by have:=a.1;omega
 have k:T.back.length<=20:=dk.1;have m:T.title.size<=40:=c;have n:T.reply.size<=400:=dr;unfold qa0;rw[hJ,hJ,hJ,hJ,hJ,hJ,hJ,hJ,hJ,hJ,hJ,hJ,hJ,hJ,hJ];refine iq e ?_;clear e;omega
theorem qpG (f:Nat->Bool):qhl (qfT (qaj f 60) 60)=qhl f:=by
 unfold qhl;refine jA fun i hi=>?_;have h:=jz.1 hi;unfold qfT;rw[if_pos h,qei f 60 i h]
theorem qpH (T:TS)(g o:Nat)(bk ps:Value):(qpA T).vals g o bk ps=T.vals g o bk ps:=by
 unfold TS.vals;show _++qhl (qfT (qaj T.tabs 60) 60)++_=_;rw[qpG];rfl
theorem TermAt.back {w:World}{t:Nat}{T:TS}{F:Nat->Prop}(h:TermAt w t (qpA T) F):TermAt w t T F:=by
 obtain⟨g,o,ba,bn,bc,pa,pn,pc,a,c,FB,FP,hI⟩:=h;obtain⟨b,d,e,bk,f,ps,pz,bz,i,j,tB,tP,k,l,m,n,p,q,lt,hi⟩:=hI;rw[qpH]at b;exact⟨g,o,ba,bn,bc,pa,pn,pc,a,c,FB,FP,b,d,e,bk,f,ps,pz,bz,i,j,tB,tP,k,l,m,n,p,q,lt,hi⟩
theorem qka {T:TS}(h:DecOk T):qmc (some (qa0 T))=some (qpA T):=by
 have:=decT_put h [];rwa[iH,if_pos rfl]at this
def oneF (P:Nat->Prop):Nat->Nat->Prop
 |0=>P
 |_+1=>fun _=>False
theorem Sys.one {w w':World}{t:Nat}{T:TS}(hT:LT w)(h7:gTop<=w.heap.size)(hc:Ch (fun _=>False) w w')(hA:TermAt w' t T (fun b=>w.heap.size<=b/\b<w'.heap.size))(hf:Fine T):Sys w w' [] [(t,T)]:=by
 refine⟨hc,qaW hc hT (fun _ h=>h.elim),h7,fun i x e=>by simp at e,fun i x e=>by simp at e,fun i j x y e=>by simp at e,oneF fun b=>w.heap.size<=b/\b<w'.heap.size,fun i x e=>?_,fun i j a b hb c=>?_,fun i b hb=>?_,fun i j x e=>by simp at e⟩
 ·cases i with
  |zero=>obtain rfl:=(ia e).symm;exact⟨hA,hf⟩
  |succ i=>simp at e
 ·cases i with
  |zero=>cases j with
   |zero=>exact a rfl
   |succ j=>exact c
  |succ i=>exact hb
 ·cases i with
  |zero=>exact hb
  |succ i=>exact hb.elim
theorem Sys.join {w0 w1 w2:World}{bs:List (Nat×List Value×TypeId)}{ts ts':List (Nat×TS)}(h:Sys w0 w1 bs ts)(h':Sys w1 w2 [] ts'):Sys w0 w2 bs (ts++ts'):=by
 obtain⟨F,f,g,d,k⟩:=h.tm;obtain⟨F',l,m,c,o⟩:=h'.tm;have hs:=h.same h'.ch;have hz:=h'.ch.size;have p:=h.ch.size;refine⟨hs.ch,h'.lt,h.top,hs.blk,hs.lo,hs.df,fun i=>if i<ts.length then F i else F' (i-ts.length),fun i x e=>?_,fun i j n b hb a=>?_,fun i b hb=>?_,fun i j x e hb=>?_⟩
 ·rcases iL i ts.length with hi|hi
  ·rw[iw hi]at e
   dsimp only;rw[if_pos hi];exact⟨(f i x e).1.ch h'.ch (fun _ _ h=>h),(f i x e).2⟩
  ·rw[iF hi]at e
   dsimp only;rw[if_neg (by omega)];exact l _ x e
 ·dsimp only at hb a
  by_cases hi:i<ts.length
  ·rw[if_pos hi]at hb
   have q:=(d i b hb).2;by_cases hj:j<ts.length
   ·rw[if_pos hj]at a;exact g i j n b hb a
   ·rw[if_neg hj]at a;have:=(c _ b a).1;omega
  ·rw[if_neg hi]at hb
   by_cases hj:j<ts.length
   ·rw[if_pos hj]at a;have:=(c _ b hb).1;have:=(d j b a).2;omega
   ·rw[if_neg hj]at a;exact m _ _ (by omega) b hb a
 ·dsimp only at hb
  by_cases hi:i<ts.length
  ·rw[if_pos hi]at hb;have:=d i b hb;omega
  ·rw[if_neg hi]at hb;have:=c _ b hb;omega
 ·dsimp only at hb
  by_cases hj:j<ts.length
  ·rw[if_pos hj]at hb;exact k i j x e hb
  ·rw[if_neg hj]at hb;have:=(c _ _ hb).1;have:=(h.blk i x e).lt;omega
structure OkS (T:TS):Prop where
 ok:∃W H,Okt true W H T
 pr:PRight T.parser
 fine:Fine T
theorem OkS.start (p1 p2:Int):OkS (startT zeroT p1 p2):=⟨⟨_,_,qm6 zeroT p1 p2 (by decide)⟩,qeX (.inl rfl),qhP p1 p2⟩
theorem OkS.doN {T:TS}(h:OkS T)(l:List Stp):∀k,OkS (doN T l k)
 |0=>h
 |k+1=>by
  obtain⟨⟨W,H,h1⟩,h2,h3⟩:=OkS.doN h l k
  exact⟨ok_do h1 h3.2 _,pr_do h2 h3.2 _,fine_do h3 _⟩
theorem OkS.dec {T:TS}(h:OkS T):DecOk T:=by
 obtain⟨⟨W,H,a⟩,b,c⟩:=h;exact decOk_of a b c.2
def crc1 (c:Int):Int:=qe .xor .u32 (Int.fdiv c (2^min (1:Int).toNat (IntKind.bits .u32))) (IntKind.wrap .u32 (3988292384*(qe .and .u32 c 1)))
def ql9 (c:Int):Nat->Int
 |0=>c
 |k+1=>crc1 (ql9 c k)
def qho (l:List Int):Nat->Int
 |0=>4294967295
 |k+1=>ql9 (qe .xor .u32 (qho l k) (l.getD k 0)) 8
def qca (l:List Int):Int:=qe .xor .u32 4294967295 (qho l l.length)
theorem qdE (op:BinOp)(a b:Int):0<=qe op .u32 a b/\qe op .u32 a b<=4294967295:=by
 have c:∀n:Int,0<=IntKind.wrap .u32 n/\IntKind.wrap .u32 n<=4294967295:=fun n=>by
  simp only[IntKind.wrap,IntKind.bits,IntKind.signed];constructor
  ·simp;omega
  ·simp;omega
 unfold qe;cases op<;>exact c _
theorem qla (l:List Int)(k:Nat):0<=qho l k/\qho l k<=4294967295:=by
 cases k with
 |zero=>exact⟨by show(0:Int)<=4294967295;decide,by show(4294967295:Int)<=4294967295;decide⟩
 |succ k=>
  show 0<=crc1 (ql9 (qe .xor .u32 (qho l k) (l.getD k 0)) 7)/\crc1 (ql9 (qe .xor .u32 (qho l k) (l.getD k 0)) 7)<=4294967295;exact qdE _ _ _
theorem qpI (l:List Int):0<=qca l/\qca l<=4294967295:=qdE _ _ _
abbrev byA (s:Int)(k:Int):Int:=IntKind.wrap .u8 (Int.fdiv s (2^min k.toNat (IntKind.bits .u32)))
def sum4 (s:Int):List Int:=[IntKind.wrap .u8 s,byA s 8,byA s 16,byA s 24]
theorem qge (n:Int):0<=IntKind.wrap .u8 n/\IntKind.wrap .u8 n<=255:=by
 simp only[IntKind.wrap,IntKind.bits,IntKind.signed];constructor
 ·simp;omega
 ·simp;omega
theorem qpJ (s:Int):qat (sum4 s):=fun x hx=>by
 unfold sum4 at hx
 simp only[j9,jf,or_false]at hx
 rcases hx with rfl|rfl|rfl|rfl<;>exact qge _
def qX (b:List Int):List Int:=qv b.length++b
def qad (b:List Int):List Int:=qX b++sum4 (qca (qX b))
theorem qbW (b:List Int):(qad b).length=(qv b.length).length+b.length+4:=by
 unfold qad qX;rw[hJ,hJ];rfl
theorem qbI {b:List Int}(h:qat b)(hl:b.length<2^64):qat (qad b):=ql (ql (qp hl) h) (qpJ _)
def qb0 (l:List Int):List Int×Nat:=
 if(qa6 l).2=0\/l.length<(qa6 l).1+(qa6 l).2+4 then([],0)
 else if qad ((l.drop (qa6 l).2).take (qa6 l).1)=l.take ((qa6 l).2+(qa6 l).1+4)then((l.drop (qa6 l).2).take (qa6 l).1,(qa6 l).2+(qa6 l).1+4)else([],0)
theorem qf1 (n:Nat):0<(qv n).length:=List.length_pos_iff.2 (qph 9 n)
theorem qfy {x:List Int}(r:List Int)(h:x.length<2^64):qb0 (qad x++r)=(x,(qad x).length):=by
 have e:qad x++r=qv x.length++(x++(sum4 (qca (qX x))++r)):=by unfold qad qX;simp only[ie]
 have ht:qa6 (qad x++r)=(x.length,(qv x.length).length):=by rw[e];exact qjX _ h
 have hp:=qf1 x.length;have hl:=qbW x;have hd:((qad x++r).drop (qv x.length).length).take x.length=x:=by rw[e,List.drop_left,jU]
 unfold qb0;rw[ht];dsimp only;rw[if_neg (by rw[hJ];omega),hd,List.take_left' (by omega),if_pos rfl];exact Prod.ext rfl (by dsimp only;omega)
theorem qlb {l:List Int}:(qb0 l).2<=l.length:=by
 unfold qb0;split
 ·exact ir _
 ·rename_i h
  split
  ·dsimp only;omega
  ·exact ir _
theorem qmg {l:List Int}:(qb0 l).1.length<=l.length:=by
 unfold qb0;split
 ·exact ir _
 ·rename_i h
  split
  ·dsimp only;rw[im,iG];omega
  ·exact ir _
theorem qkb {l:List Int}(h:qat l):qat (qb0 l).1:=by
 unfold qb0;split
 ·exact fun x hx=>by cases hx
 ·split
  ·exact fun x hx=>h x (iW (iS hx))
  ·exact fun x hx=>by cases hx
structure Ev where
 time:Int
 kind:Int
 data:ByteArray
 w:Int
 h:Int
def ev0:Ev:=⟨0,0,ByteArray.empty,0,0⟩
def Ev.vals (e:Ev):List Value:=[.int .i64 e.time,.int .i64 e.kind,.string e.data,.int .i64 e.w,.int .i64 e.h]
def evB (e:Ev):Bool:=
 if e.time<0\/4611686018427387904<=e.time\/400<(e.data.size:Int)then false
 else if e.kind=2 then decide (e.data.size=0/\1<=e.w/\1<=e.h/\e.w<=1000/\e.h<=1000)
 else if e.kind=0\/e.kind=1\/e.kind=3 then decide (e.w=0/\e.h=0)else false
def evI (fr:Int)(e:Ev):List Int:=qv e.kind.toNat++qv (e.time-fr).toNat++(if e.kind=2 then qv e.w.toNat++qv e.h.toNat else qbt e.data)
def evR (fr:Int)(s:RS):Option Ev×RS:=
 let q1:=qP 4 s
 let q2:=qP 4611686018427387904 q1.2
 if q1.1=2 then
  let q3:=qP 1001 q2.2
  let q4:=qP 1001 q3.2
  (if q4.2.isSome=true/\evB ⟨fr+q2.1,q1.1,E0,q3.1,q4.1⟩=true then some ⟨fr+q2.1,q1.1,E0,q3.1,q4.1⟩else none,q4.2)
 else
  let q3:=qbb 400 q2.2
  (if q3.2.isSome=true/\evB ⟨fr+q2.1,q1.1,q3.1,0,0⟩=true then some ⟨fr+q2.1,q1.1,q3.1,0,0⟩else none,q3.2)
theorem qfV {e:Ev}(h:evB e=true):((0<=e.time/\e.time<4611686018427387904)/\e.data.size<=400)/\((e.kind=2/\e.data.size=0/\(1<=e.w/\e.w<=1000)/\1<=e.h/\e.h<=1000)\/((e.kind=0\/e.kind=1\/e.kind=3)/\e.w=0/\e.h=0)):=by
 unfold evB at h;split at h
 ·cases h
 ·rename_i c
  split at h
  ·rename_i a
   have:=iK h;exact⟨by omega,.inl ⟨a,by omega⟩⟩
  ·split at h
   ·rename_i b
    have:=iK h;exact⟨by omega,.inr ⟨b,this⟩⟩
   ·cases h
theorem bytes0 {s:ByteArray}(h:s.size=0):s=E0:=by
 apply ByteArray.ext;apply Array.ext
 ·exact h
 ·intro i hi;have:s.data.size=0:=h;omega
theorem evR_put {fr:Int}{e:Ev}(r:List Int)(h:evB e=true)(h0:0<=fr/\fr<=e.time):evR fr (some (evI fr e++r))=(some e,some r):=by
 obtain⟨⟨g,i⟩,a⟩:=qfV h;obtain⟨t,k,d,w,hh⟩:=e;dsimp only at*;have hk:0<=k/\k<=3:=by rcases a with a|a<;>omega
 have c:qP 4 (some (evI fr ⟨t,k,d,w,hh⟩++r))=(k,some (qv (t-fr).toNat++((if k=2 then qv w.toNat++qv hh.toNat else qbt d)++r))):=by
  unfold evI;dsimp only;rw[ie,ie,qab _ (by omega) (by omega),j8 hk.1]
 have f:qP 4611686018427387904 (some (qv (t-fr).toNat++((if k=2 then qv w.toNat++qv hh.toNat else qbt d)++r)))=(t-fr,some ((if k=2 then qv w.toNat++qv hh.toNat else qbt d)++r)):=by
  rw[qab _ (by omega) (by omega),j8 (by omega)]
 unfold evR;rw[c];dsimp only;rw[f];dsimp only;rw[show fr+(t-fr)=t by omega];rcases a with⟨rfl,hd,hw,j⟩|⟨l,rfl,rfl⟩
 ·rw[if_pos rfl,if_pos rfl,ie,qab _ (by omega) (by omega),j8 (by omega)]
  dsimp only;rw[qab _ (by omega) (by omega),j8 (by omega),<-bytes0 hd];dsimp only;rw[if_pos ⟨rfl,h⟩]
 ·have b:¬k=2:=by omega
  rw[if_neg b,if_neg b,qcT r (by decide) (by omega),qdC];dsimp only;rw[if_pos ⟨rfl,h⟩]
theorem qdZ {fr:Int}{e:Ev}(h:evB e=true)(h0:0<=fr):qat (evI fr e):=by
 obtain⟨⟨a,b⟩,c⟩:=qfV h;unfold evI;refine ql (ql (qp (by omega)) (qp (by omega))) ?_;split
 ·exact ql (qp (by omega)) (qp (by omega))
 ·exact qdY (by omega)
theorem qdF {fr:Int}{e:Ev}(h:evB e=true):(evI fr e).length<=450:=by
 obtain⟨⟨a,b⟩,c⟩:=qfV h;have d:=qH e.kind.toNat;have f:=qH (e.time-fr).toNat;have g:=qH e.w.toNat;have i:=qH e.h.toNat;have j:=qfx e.data;unfold evI;rw[hJ,hJ];split
 ·rw[hJ];omega
 ·omega
abbrev tU8:TypeId:=5
abbrev tRdr:TypeId:=175
abbrev u8s (l:List Int):List Value:=l.map (Value.int .u8)
abbrev u64s (l:List Int):List Value:=l.map (Value.int .u64)
def qag (ns:List Int):List Int:=ns.flatMap fun x=>qv x.toNat
theorem qlc {w:World}{b o:Nat}{l:List Int}(h:Rd w (some ⟨b,o,none⟩) (u8s l)){k:Nat}(hk:k<l.length):w.cell? ⟨b,o+(k:Int).toNat*1,none⟩=some (.int .u8 (l.getD k 0)):=by
 rw[il,iN];refine qcg h k _ ?_;rw[iM,ig hk];simp[List.getD,ig hk]
theorem u64_cell {w:World}{b o:Nat}{l:List Int}(h:Rd w (some ⟨b,o,none⟩) (u64s l)){k:Nat}(hk:k<l.length):w.cell? ⟨b,o+(k:Int).toNat*1,none⟩=some (.int .u64 (l.getD k 0)):=by
 rw[il,iN];refine qcg h k _ ?_;rw[iM,ig hk];simp[List.getD,ig hk]
theorem drop_at {l:List Int}{k:Nat}(hk:k<l.length):l.drop k=l.getD k 0::l.drop (k+1):=by
 rw[jX hk];simp[List.getD,ig hk]
theorem qpK {l:List Int}{k:Nat}(hk:k<l.length):l.take (k+1)=l.take k++[l.getD k 0]:=by
 rw[j4 hk];simp[List.getD,ig hk]
theorem qd6 {l:List Int}{k:Nat}(hk:k<l.length):l.getD k 0∈l:=by
 simp[List.getD,ig hk]
theorem qnD (l:List Int)(x:Int):qag (l++[x])=qag l++qv x.toNat:=by simp[qag]
structure RdrIn (w:World)(rv D:Nat)(a:Option Addr)(n cap:Nat)(ys:List Int)(bad:Bool):Prop where
 blk:Blk w rv [.slice a n cap,.bool bad] tRdr
 rd:Rd w a (u8s ys)
 len:ys.length=n
 le:n<=cap
 z:(n=0/\cap=0)\/ ∃o,a=some ⟨D,o,none⟩
 byt:qat ys
 ne:¬rv=D
 big:n<=100000000
 dl:D<w.heap.size
def rsOf (bad:Bool)(ys:List Int):RS:=if bad=true then none else some ys
def RdrAt (w:World)(rv D:Nat)(s:RS):Prop:= ∃a n cap ys bad,RdrIn w rv D a n cap ys bad/\s=rsOf bad ys
section
variable {w w':World}{rv D:Nat}{a:Option Addr}{n cap:Nat}{ys:List Int}{bad:Bool}{s:RS}{B:Nat->Prop}
theorem RdrIn.rdch (h:RdrIn w rv D a n cap ys bad)(hc:Ch B w w')(h2:¬B D):Rd w' a (u8s ys):=by
 rcases h.z with⟨b,_⟩|⟨o,rfl⟩
 ·obtain rfl:=iy (h.len.trans b)
  exact Rd.nil _ _
 ·exact h.rd.ch hc fun ad e=>by cases e;exact h2
theorem RdrIn.some (h:RdrIn w rv D a n cap ys bad)(hn:n≠0):∃o,a=Option.some ⟨D,o,none⟩:=by
 rcases h.z with⟨h,_⟩|h
 ·exact absurd h hn
 ·exact h
theorem RdrIn.ch (h:RdrIn w rv D a n cap ys bad)(hc:Ch B w w')(h1:¬B rv)(h2:¬B D):RdrIn w' rv D a n cap ys bad:=
 {h with
  blk:=h.blk.ch hc h1
  rd:=h.rdch hc h2
  dl:=ic h.dl hc.size}
def RdrX (w:World)(rv D:Nat)(s:RS):Prop:= ∃a n cap ys bad,RdrIn w rv D a n cap ys bad/\s=rsOf bad ys/\(bad=true\/ ∃o,a=Option.some ⟨D,o,none⟩)
theorem RdrX.at (h:RdrX w rv D s):RdrAt w rv D s:=by
 obtain⟨a,n,cap,ys,bad,h,e,_⟩:=h;exact⟨a,n,cap,ys,bad,h,e⟩
theorem RdrAt.ch (h:RdrAt w rv D s)(hc:Ch B w w')(h1:¬B rv)(h2:¬B D):RdrAt w' rv D s:=by
 obtain⟨a,n,cap,ys,bad,h,e⟩:=h;exact⟨a,n,cap,ys,bad,h.ch hc h1 h2,e⟩
theorem RdrAt.lt (h:RdrAt w rv D s):rv<w.heap.size:=by
 obtain⟨a,n,cap,ys,bad,h,e⟩:=h;exact h.blk.lt
theorem RdrAt.dlt (h:RdrAt w rv D s):D<w.heap.size:=by
 obtain⟨a,n,cap,ys,bad,h,e⟩:=h;exact h.dl
theorem RdrAt.rs (h:RdrAt w rv D s):rsB s:=by
 obtain⟨a,n,cap,ys,bad,h,rfl⟩:=h;intro zs e;unfold rsOf at e;split at e
 ·cases e
 ·obtain rfl:=ia e
  exact h.byt
theorem RdrIn.spoil (h:RdrIn w rv D a n cap ys bad)(hc:Ch (fun j=>j=rv) w w')(hb:Blk w' rv [.slice a n cap,.bool true] tRdr):RdrX w' rv D none:=
 ⟨a,n,cap,ys,true,{h with
  blk:=hb
  rd:=h.rdch hc fun e=>h.ne e.symm
  dl:=ic h.dl hc.size},rfl,.inl rfl⟩
theorem RdrIn.drop {o:Nat}(h:RdrIn w rv D (Option.some ⟨D,o,none⟩) n cap ys false)(k:Nat)(hk:k<=n)(hc:Ch (fun j=>j=rv) w w')(hb:Blk w' rv [.slice (Option.some ⟨D,if cap=k then o else o+k*1,none⟩) (n-k) (cap-k),.bool false] tRdr):RdrX w' rv D (Option.some (ys.drop k)):=by
 have hr:=h.rdch hc fun e=>h.ne e.symm;refine⟨_,n-k,cap-k,ys.drop k,false,⟨hb,⟨(fun e=>by cases e),fun ad e j u hj=>?_⟩,by rw[iG,h.len],by have:=h.le;omega,.inr ⟨_,rfl⟩,qdx h.byt k,h.ne,by have:=h.big;omega,ic h.dl hc.size⟩,rfl,.inr ⟨_,rfl⟩⟩;cases e;have hl:=(io.1 hj).1;rw[hZ,iG,h.len]at hl;have b:=h.le;rw[if_neg (show¬cap=k by omega)];have:=hr.2 ⟨D,o,none⟩ rfl (k+j) u (by
  rw[u8s,iM,jg,<-iM]at hj;exact hj)
 rw[qaZ]at this⊢;rw[show o+k*1+j=o+(k+j) by omega];exact this
end
theorem numR_bad {lim:Int}{ys:List Int}:qP lim (rsOf true ys)=(0,none):=rfl
theorem qld {lim:Int}{ys:List Int}{bad:Bool}(h:(qa6 ys).2=0\/9223372036854775807<(qa6 ys).1\/(0<lim/\lim<=((qa6 ys).1:Int))):qP lim (rsOf bad ys)=(0,none):=by
 cases bad with
 |true=>rfl
 |false=>show(if _ then _ else _)=_;rw[if_pos h]
theorem qmh {lim:Int}{ys:List Int}(h0:¬(qa6 ys).2=0)(h1:¬9223372036854775807<(qa6 ys).1)(h2:¬(0<lim/\lim<=((qa6 ys).1:Int))):qP lim (rsOf false ys)=(((qa6 ys).1:Int),some (ys.drop (qa6 ys).2)):=by
 show(if _ then _ else _)=_;rw[if_neg (by rintro (h|h|h);exact h0 h;exact h1 h;exact h2 h)]
def NewA (A:Asn)(w w':World):Prop:=(∃F,A.P w' F/\ ∀b,F b->w.heap.size<=b/\b<w'.heap.size)/\Ch (fun _=>False) w w'
def qe5 (A A':Asn)(F:Nat->Prop)(w w':World):Prop:=A'.P w' (more F w w')/\Ch F w w'
section
variable {w0 w w':World}{F0 F:Nat->Prop}{l:List Asn}{A A':Asn}{i:Nat}
theorem Sep.addN (h:Sep w0 F0 w l)(hN:NewA A w w'):Sep w0 F0 w' (l++[A]):=by
 obtain⟨⟨G,a,b⟩,hc⟩:=hN;exact h.add a b hc
theorem Sep.finN (h:Sep w0 (fun _=>False) w l)(i:Nat)(hi:l[i]? =some A:=by rfl):NewA A w0 w:=by
 obtain⟨F,c,d,a⟩:=h.ex;exact⟨⟨F i,c i A hi,fun b hb=>⟨(a i b hb).1.elim False.elim id,(a i b hb).2⟩⟩,h.ch⟩
theorem Sep.gz (h:Sep w0 F0 w l)(hg:Gz w0 F0)(hF:∀b,F b->(F0 b\/w0.heap.size<=b)/\b<w.heap.size):Gz w F:=
 ⟨iq hg.top h.ch.size,fun b hb=>⟨hg.gt (hF b hb).1,(hF b hb).2⟩⟩
theorem gz0 (h7:gTop<=w.heap.size):Gz w (fun _=>False):=⟨h7,fun _ h=>h.elim⟩
theorem Sep.stepA {P:Program}{k:FuncId}{args:Array Value}{v:Value}(h:Sep w0 F0 w l)(hg:Gz w0 F0)(i:Nat)(hk:∀F,A.P w F->Gz w F->Calls P k args w fun e w'=>e= .returned v/\qe5 A A' F w w')(hi:l[i]? =some A:=by rfl):Calls P k args w fun e w'=>e= .returned v/\Sep w0 F0 w' (l.set i A'):=
 h.step i (fun F hA hF=>hk F hA (h.gz hg hF)) hi
theorem Sep.finS (h:Sep w0 F0 w l)(hg:Gz w0 F0)(i:Nat)(hi:l[i]? =some A':=by rfl):qe5 A A' F0 w0 w:=h.fin hg hi
theorem Sep.startA {X:Type}{L:X->List Asn}(h:(qgu L).P w F)(hg:Gz w F):∃x,Sep w F w (L x):=Sep.startP h fun b hb=>(hg.lo b hb).2
end
abbrev qi1:TypeId:=132
abbrev tOne:TypeId:=151
def nmR:ByteArray:=⟨#[114]⟩
theorem nmR_ne:(nmR.toList==ByteArray.empty.toList)=false:=by simp[nmR,ByteArray.toList,ByteArray.toList.loop,ByteArray.size]
structure Fl where
 data:List Int
 sure:Int
structure St where
 file:Option Fl
 quota:Int
 armed:Bool
 left:Int
 down:Bool
structure StX where
 m:Nat
 f:Nat
 o:Option Nat
 n:Nat
 c:Nat
def St.vals (S:St)(m:Nat):List Value:=[.map (some m),.int .i64 S.quota,.bool S.armed,.int .i64 S.left,.bool S.down]
def oneE (f:Nat):List MapEntry:=[{key:= .string nmR,val:= .pointer (some ⟨f,0,none⟩),born:=0}]
def qe9 (b:Nat)(S:St)(x:StX):List Asn:=
 match S.file with
 |none=>[qbB b (S.vals x.m) qi1,qkG x.m (.map (([]:List MapEntry).toArray) 0)]
 |some q=>[qbB b (S.vals x.m) qi1,qkG x.m (.map (oneE x.f).toArray 1),qbB x.f [.slice (x.o.map at0) x.n x.c,.int .i64 q.sure] tOne,qa8 tU8 1 x.o x.n x.c (u8s q.data)]
def StRd (w:World)(b:Nat)(S:St)(x:StX):Prop:=
 match S.file with
 |none=>Blk w b (S.vals x.m) qi1/\Ob w x.m (.map (([]:List MapEntry).toArray) 0)
 |some q=>Blk w b (S.vals x.m) qi1/\Ob w x.m (.map (oneE x.f).toArray 1)/\Blk w x.f [.slice (x.o.map at0) x.n x.c,.int .i64 q.sure] tOne/\Own w tU8 1 x.o x.n x.c (u8s q.data)
abbrev qJ (b:Nat)(S:St):Asn:=qgu (qe9 b S)
def usedI (S:St):Int:=match S.file with
 |none=>0
 |some q=>(q.data.length:Int)
theorem qmi (a:Option Addr)(n cap:Nat)(us:List Int)(w:World)(hr:Rd w a (u8s us))(hl:us.length=n)(hz:n=0\/ ∃b o,a=some ⟨b,o,none⟩)(hb:qat us)(hn:n<=1000000000):CP 86 [.slice a n cap].toArray w (RQ (.tuple #[.int .u64 ((qa6 us).1:Int),iX ((qa6 us).2:Int)]) w):=by
 refine yA Tryz.func86 rfl<|yx 2<|yx 1<|ys<|yx 3<|qa<|qV [4,7,8,9] (f':=[(4,.int .u64 0),(7,.slice a n cap),(8,iX (n:Int)),(9,iX 0)])<|qw (σ:=Nat×Int) (fun⟨k,x⟩=>[(4,.int .u64 x),(7,.slice a n cap),(8,iX (n:Int)),(9,iX (k:Int))]) (fun⟨k,x⟩ u=>k<=n/\qdi 0 0 us=qdi k x (us.drop k)/\Ch (fun _=>False) w u) (fun⟨k,x⟩=>n-k) (0,0) rfl ?_ ?_
 ·exact⟨ir _,rfl,Ch.refl _ _⟩
 intro p I D J C;obtain⟨k,x⟩:=p;obtain⟨hk,hG,g⟩:=D;have f:=zu (zm w) g iZ;have E:=Rd.ch hr g iZ;refine yx 1<|ys<|yc (rL (k:Int) (n:Int)) (fun F=>?_) fun F=>?_
 ·obtain⟨pb,po,rfl⟩:=hz.resolve_left (by omega);have G:=drop_at (l:=us) (k:=k) (by omega);have K:=hb _ (qd6 (l:=us) (k:=k) (by omega));rw[G]at hG;refine yk<|ys<|qa<|ysr<|yp 5 [] (.i (k:Int) (n) (.l (o:=(po+((k:Int)).toNat*1)) (qlc E (k:=k) (by omega)) .z))<|ye<|ys<|ysr<|yq 3<|yw [16] (rE (k:Int) 9) (fun h=>?_) fun h=>?_
  ·have L:=h;refine yq 7<|yw [20] (rL 1 (us.getD k 0)) (fun j=>?_) fun j=>?_
   ·have M:=j;refine yz 10<|yct<|yx 2<|q9 (rS (rB (rS (qy (rB (rS (yR2 [.int .u64 0,iX 0] .z ?_)))))));have hN:=qcE hb;rw[hG]at hN;rw[qdi]at hN
    first
     |(exfalso;omega)
     |(rw[if_pos (by omega)]at hN;obtain⟨c,d⟩:=iC hN;exact⟨by rw[<-c,<-d],Up.ch f⟩)
     |(rw[if_neg (by omega),if_pos (by omega),if_pos (by omega)]at hN;obtain⟨c,d⟩:=iC hN;exact⟨by rw[<-c,<-d],Up.ch f⟩)
     |(rw[if_neg (by omega),if_pos (by omega),if_neg (by omega)]at hN;obtain⟨c,d⟩:=iC hN;exact⟨by rw[<-c,<-d],Up.ch f⟩)
   have N:=j;refine yz 10<|yc (rL 9 (k:Int)) (fun m=>?_) fun m=>?_
   ·have O:=m;refine yx 2<|q9 (rS (rB (rS (qy (rB (rS (yR2 [.int .u64 0,iX 0] .z ?_)))))));have hN:=qcE hb;rw[hG]at hN;rw[qdi]at hN
    first
     |(exfalso;omega)
     |(rw[if_pos (by omega)]at hN;obtain⟨c,d⟩:=iC hN;exact⟨by rw[<-c,<-d],Up.ch f⟩)
     |(rw[if_neg (by omega),if_pos (by omega),if_pos (by omega)]at hN;obtain⟨c,d⟩:=iC hN;exact⟨by rw[<-c,<-d],Up.ch f⟩)
     |(rw[if_neg (by omega),if_pos (by omega),if_neg (by omega)]at hN;obtain⟨c,d⟩:=iC hN;exact⟨by rw[<-c,<-d],Up.ch f⟩)
   have P:=m;refine yk<|ysr<|yp 9 [] (.q6 (7*(k:Int)) (.p (q:=0<=((7*(k:Int)):Int)) (by omega) .z))<|ye<|yx 2<|yc (rL (us.getD k 0) 128) (fun r=>?_) fun r=>?_
   ·have Q:=r;refine ys<|ysr<|yq 3<|yw [36] (rE (us.getD k 0) 0) (fun s=>?_) fun s=>?_
    ·have R:=s;refine yz 6<|yc (rL 0 (k:Int)) (fun t=>?_) fun t=>?_
     ·have S:=t;refine yx 2<|q9 (rS (rB (rS (qy (rB (rS (yR2 [.int .u64 0,iX 0] .z ?_)))))));have hN:=qcE hb;rw[hG]at hN;rw[qdi]at hN
      first
       |(exfalso;omega)
       |(rw[if_pos (by omega)]at hN;obtain⟨c,d⟩:=iC hN;exact⟨by rw[<-c,<-d],Up.ch f⟩)
       |(rw[if_neg (by omega),if_pos (by omega),if_pos (by omega)]at hN;obtain⟨c,d⟩:=iC hN;exact⟨by rw[<-c,<-d],Up.ch f⟩)
       |(rw[if_neg (by omega),if_pos (by omega),if_neg (by omega)]at hN;obtain⟨c,d⟩:=iC hN;exact⟨by rw[<-c,<-d],Up.ch f⟩)
     have T:=t;refine yk<|ysr<|yp 5 [] (.q6 ((k:Int)+1) .z)<|ye<|q9 (rB (rS (qy (rB (rS (yR2 [.int .u64 (qe .or .u64 x (IntKind.wrap .u64 ((IntKind.wrap .u64 (qe .and .u8 (us.getD k 0) 127))*2^min ((7*(k:Int)):Int).toNat (IntKind.bits .u64)))),iX ((k:Int)+1)] .z ?_))))));have hN:=qcE hb;rw[hG]at hN;rw[qdi]at hN
     first
      |(exfalso;omega)
      |(rw[if_pos (by omega)]at hN;obtain⟨c,d⟩:=iC hN;exact⟨by rw[<-c,<-d],Up.ch f⟩)
      |(rw[if_neg (by omega),if_pos (by omega),if_pos (by omega)]at hN;obtain⟨c,d⟩:=iC hN;exact⟨by rw[<-c,<-d],Up.ch f⟩)
      |(rw[if_neg (by omega),if_pos (by omega),if_neg (by omega)]at hN;obtain⟨c,d⟩:=iC hN;exact⟨by rw[<-c,<-d],Up.ch f⟩)
    have U:=s;refine yz 6<|ycf<|yk<|ysr<|yp 5 [] (.q6 ((k:Int)+1) .z)<|ye<|q9 (rB (rS (qy (rB (rS (yR2 [.int .u64 (qe .or .u64 x (IntKind.wrap .u64 ((IntKind.wrap .u64 (qe .and .u8 (us.getD k 0) 127))*2^min ((7*(k:Int)):Int).toNat (IntKind.bits .u64)))),iX ((k:Int)+1)] .z ?_))))));have hN:=qcE hb;rw[hG]at hN;rw[qdi]at hN
    first
     |(exfalso;omega)
     |(rw[if_pos (by omega)]at hN;obtain⟨c,d⟩:=iC hN;exact⟨by rw[<-c,<-d],Up.ch f⟩)
     |(rw[if_neg (by omega),if_pos (by omega),if_pos (by omega)]at hN;obtain⟨c,d⟩:=iC hN;exact⟨by rw[<-c,<-d],Up.ch f⟩)
     |(rw[if_neg (by omega),if_pos (by omega),if_neg (by omega)]at hN;obtain⟨c,d⟩:=iC hN;exact⟨by rw[<-c,<-d],Up.ch f⟩)
   have V:=r;refine qo (nB (nS ?_));refine q7<|yp 2 [] (.q6 ((k:Int)+1) .z)<|yE (fun a ha=>C (k+1,orT x (us.getD k 0) k) _ ⟨by omega,by rw[hG,qdi,if_neg (by omega),if_neg (by omega)],g⟩ (by show n-(k+1)<n-k;omega) a (ha.kp [4,7,8,9]))
  have W:=h;refine yz 10<|yc (rL 9 (k:Int)) (fun v=>?_) fun v=>?_
  ·have X:=v;refine yx 2<|q9 (rS (rB (rS (qy (rB (rS (yR2 [.int .u64 0,iX 0] .z ?_)))))));have hN:=qcE hb;rw[hG]at hN;rw[qdi]at hN
   first
    |(exfalso;omega)
    |(rw[if_pos (by omega)]at hN;obtain⟨c,d⟩:=iC hN;exact⟨by rw[<-c,<-d],Up.ch f⟩)
    |(rw[if_neg (by omega),if_pos (by omega),if_pos (by omega)]at hN;obtain⟨c,d⟩:=iC hN;exact⟨by rw[<-c,<-d],Up.ch f⟩)
    |(rw[if_neg (by omega),if_pos (by omega),if_neg (by omega)]at hN;obtain⟨c,d⟩:=iC hN;exact⟨by rw[<-c,<-d],Up.ch f⟩)
  have Y:=v;refine yk<|ysr<|yp 9 [] (.q6 (7*(k:Int)) (.p (q:=0<=((7*(k:Int)):Int)) (by omega) .z))<|ye<|yx 2<|yc (rL (us.getD k 0) 128) (fun y=>?_) fun y=>?_
  ·have Z:=y;refine ys<|ysr<|yq 3<|yw [36] (rE (us.getD k 0) 0) (fun A=>?_) fun A=>?_
   ·have a0:=A;refine yz 6<|yc (rL 0 (k:Int)) (fun B=>?_) fun B=>?_
    ·have a1:=B;refine yx 2<|q9 (rS (rB (rS (qy (rB (rS (yR2 [.int .u64 0,iX 0] .z ?_)))))));have hN:=qcE hb;rw[hG]at hN;rw[qdi]at hN
     first
      |(exfalso;omega)
      |(rw[if_pos (by omega)]at hN;obtain⟨c,d⟩:=iC hN;exact⟨by rw[<-c,<-d],Up.ch f⟩)
      |(rw[if_neg (by omega),if_pos (by omega),if_pos (by omega)]at hN;obtain⟨c,d⟩:=iC hN;exact⟨by rw[<-c,<-d],Up.ch f⟩)
      |(rw[if_neg (by omega),if_pos (by omega),if_neg (by omega)]at hN;obtain⟨c,d⟩:=iC hN;exact⟨by rw[<-c,<-d],Up.ch f⟩)
    have a2:=B;refine yk<|ysr<|yp 5 [] (.q6 ((k:Int)+1) .z)<|ye<|q9 (rB (rS (qy (rB (rS (yR2 [.int .u64 (qe .or .u64 x (IntKind.wrap .u64 ((IntKind.wrap .u64 (qe .and .u8 (us.getD k 0) 127))*2^min ((7*(k:Int)):Int).toNat (IntKind.bits .u64)))),iX ((k:Int)+1)] .z ?_))))));have hN:=qcE hb;rw[hG]at hN;rw[qdi]at hN
    first
     |(exfalso;omega)
     |(rw[if_pos (by omega)]at hN;obtain⟨c,d⟩:=iC hN;exact⟨by rw[<-c,<-d],Up.ch f⟩)
     |(rw[if_neg (by omega),if_pos (by omega),if_pos (by omega)]at hN;obtain⟨c,d⟩:=iC hN;exact⟨by rw[<-c,<-d],Up.ch f⟩)
     |(rw[if_neg (by omega),if_pos (by omega),if_neg (by omega)]at hN;obtain⟨c,d⟩:=iC hN;exact⟨by rw[<-c,<-d],Up.ch f⟩)
   have a3:=A;refine yz 6<|ycf<|yk<|ysr<|yp 5 [] (.q6 ((k:Int)+1) .z)<|ye<|q9 (rB (rS (qy (rB (rS (yR2 [.int .u64 (qe .or .u64 x (IntKind.wrap .u64 ((IntKind.wrap .u64 (qe .and .u8 (us.getD k 0) 127))*2^min ((7*(k:Int)):Int).toNat (IntKind.bits .u64)))),iX ((k:Int)+1)] .z ?_))))));have hN:=qcE hb;rw[hG]at hN;rw[qdi]at hN
   first
    |(exfalso;omega)
    |(rw[if_pos (by omega)]at hN;obtain⟨c,d⟩:=iC hN;exact⟨by rw[<-c,<-d],Up.ch f⟩)
    |(rw[if_neg (by omega),if_pos (by omega),if_pos (by omega)]at hN;obtain⟨c,d⟩:=iC hN;exact⟨by rw[<-c,<-d],Up.ch f⟩)
    |(rw[if_neg (by omega),if_pos (by omega),if_neg (by omega)]at hN;obtain⟨c,d⟩:=iC hN;exact⟨by rw[<-c,<-d],Up.ch f⟩)
  have a4:=y;refine qo (nB (nS ?_));refine q7<|yp 2 [] (.q6 ((k:Int)+1) .z)<|yE (fun a ha=>C (k+1,orT x (us.getD k 0) k) _ ⟨by omega,by rw[hG,qdi,if_neg (by omega),if_neg (by omega)],g⟩ (by show n-(k+1)<n-k;omega) a (ha.kp [4,7,8,9]))
 have H:k=n:=by omega
 refine qm (eS (qd (qb (nS ?_))));refine yx 2<|q9 (yR2 [.int .u64 0,iX 0] .z ?_);have hN:=qcE hb;rw[hG]at hN;rw[H,jF (by omega),qdi]at hN;obtain⟨c,d⟩:=iC hN;exact⟨by rw[<-c,<-d],Up.ch f⟩
theorem putV_any (o:Option Nat)(n cap:Nat)(xs:List Int)(lb k:Nat)(ns:List Int)(w:World)(hO:Own w tU8 1 o n cap (u8s xs))(hr:Rd w (some ⟨lb,0,none⟩) (u64s ns))(hk:ns.length=k)(hv:∀x∈ns,0<=x/\x<=18446744073709551615)(hlb:lb<w.heap.size)(hne:∀b,o=some b-> ¬b=lb)(hz:n+10*k<=1000000000):CP 55 [.slice (o.map at0) n cap,.slice (some ⟨lb,0,none⟩) k k].toArray w fun e w'=>
 ∃o' n' cap',e= .returned (.slice (o'.map at0) n' cap')/\Own w' tU8 1 o' n' cap' (u8s (xs++qag ns))/\n'<=n+10*k/\App w w' o o':=by
 refine yA Tryz.func55 rfl<|yx 1<|ys<|yx 3<|qa<|qV [0,7,8,9] (f':=[(0,.slice (o.map at0) n cap),(7,.slice (some ⟨lb,0,none⟩) k k),(8,iX (k:Int)),(9,iX 0)])<|qw (σ:=Nat×Option Nat×Nat×Nat) (fun⟨j,g,d,m⟩=>[(0,.slice (g.map at0) d m),(7,.slice (some ⟨lb,0,none⟩) k k),(8,iX (k:Int)),(9,iX (j:Int))]) (fun⟨j,g,d,m⟩ u=>j<=k/\Own u tU8 1 g d m (u8s (xs++qag (ns.take j)))/\App w u o g/\d<=n+10*j) (fun⟨j,g,d,m⟩=>k-j) (0,o,n,cap) rfl ?_ ?_
 ·exact⟨ir _,by simpa[qag]using hO,App.refl _ _,iE _⟩
 intro p ad L ae M;obtain⟨j,g,d,m⟩:=p;obtain⟨hj,A,v,af⟩:=L;have N:=Ch.rd v.ch hr (fun h=>hne _ h rfl);have ag:=ic hlb v.ch.size;refine yx 1<|ys<|yc (rL (j:Int) (k:Int)) (fun B=>?_) fun B=>?_
 ·have ah:=B;have ai:=hv _ (qd6 (l:=ns) (k:=j) (by omega));refine yk<|ys<|qa<|ysr<|yp 3 [] (.i (j:Int) (k) (.l (o:=(0+((j:Int)).toNat*1)) (u64_cell N (k:=j) (by omega)) .z))<|ye<|ys<|qa<|qV [0,6,7,8,9] (f':=[(0,.slice (g.map at0) d m),(6,.int .u64 (ns.getD j 0)),(7,.slice (some ⟨lb,0,none⟩) k k),(8,iX (k:Int)),(9,iX (j:Int))])<|qw (σ:=Int×Nat×List Int×Option Nat×Nat×Nat) (fun⟨x,f,zs,r,c,s⟩=>[(0,.slice (r.map at0) c s),(6,.int .u64 x),(7,.slice (some ⟨lb,0,none⟩) k k),(8,iX (k:Int)),(9,iX (j:Int))]) (fun⟨x,f,zs,r,c,s⟩ u=>0<=x/\x.toNat<128^(f+1)/\zs++qhe f x.toNat=(xs++qag (ns.take j))++qv (ns.getD j 0).toNat/\Own u tU8 1 r c s (u8s zs)/\App w u o r/\c+f+1<=d+10) (fun⟨x,f,zs,r,c,s⟩=>x.toNat) (ns.getD j 0,9,xs++qag (ns.take j),g,d,m) rfl ?_ ?_
  ·exact⟨by omega,by have O:(128:Nat)^(9+1)=1180591620717411303424:=(by decide);rw[O];omega,rfl,A,v,by omega⟩
  intro q aj P ak Q;obtain⟨x,f,zs,r,c,s⟩:=q;obtain⟨al,R,E,y,F,am⟩:=P;refine ys<|yx 2<|yc (rM 128 x) (fun C=>?_) fun C=>?_
  ·have an:=C;refine yk<|ys<|qa<|q7<|yq 4<|yo (yB [uX (qe .or .u8 (IntKind.wrap .u8 x) 128)] 5 1 fun ao G ap aq S H=>?_);have ar:=zv (b:=G) y;have T:=y.ch H iZ;have U:=F.step H iZ;refine yo (qaE 5 1 1 r c s (u8s zs) (some ⟨G,0,none⟩) 1 1 [uX (qe .or .u8 (IntKind.wrap .u8 x) 128)] (some 22) (c+1) rfl (u8s (zs++[(qe .or .u8 (IntKind.wrap .u8 x) 128)])) (by rw[u8s,u8s,iI];rfl) (by kernel_rfl) T (Rd.all S) rfl rfl (fun h=>by cases h) (by constructor<;>first|omega|(simp only[maxLen];omega)) ?_);intro au V W X Y av Z;have a0:=U.trans (App.of Y Z);refine yq 7<|yE (nB (nS ?_));refine q7<|yp 3 [] (.p (q:=0<=(7:Int)) (by omega) .z) ?_;obtain⟨f,rfl⟩:∃f',f=f'+1:=by
    cases f with
    |zero=>exfalso;have:x.toNat<128:=R;omega
    |succ f=>exact⟨f,rfl⟩
   have D:x=(x.toNat:Int):=by omega
   have t:=shr7_eq x.toNat;have I:=low7_eq x.toNat;rw[<-D]at t I;have aw:128^(f+1+1)=128^(f+1)*128:=rfl;have hq:zs++[low7 x]++qhe f (shr7 x).toNat=(xs++qag (ns.take j))++qv (ns.getD j 0).toNat:=by rw[<-E,qdV (by omega),t,I,il,ie];rfl
   refine yE (fun a ha=>Q (shr7 x,f,zs++[low7 x],V,(c+1),W) _ ⟨by rw[t];omega,by rw[t];omega,hq,X,a0,by omega⟩ (by show(shr7 x).toNat<x.toNat;rw[t];omega) a (ha.kp [0,6,7,8,9]))
  have ax:=C;have D:x=(x.toNat:Int):=by omega
  have a1:IntKind.wrap .u8 x=(x.toNat:Int):=by rw[D,wrap8];congr 1;omega
  have a2:zs++[IntKind.wrap .u8 x]=(xs++qag (ns.take j))++qv (ns.getD j 0).toNat:=by rw[<-E,qcd (by omega),a1]
  refine qm (eS (qd (qb (nS ?_))));refine q7<|yq 3<|yo (yB [uX (IntKind.wrap .u8 x)] 5 1 fun ay J az aA a3 K=>?_);have aB:=zv (b:=J) y;have a4:=y.ch K iZ;have a5:=F.step K iZ;refine yo (qaE 5 1 1 r c s (u8s zs) (some ⟨J,0,none⟩) 1 1 [uX (IntKind.wrap .u8 x)] (some 27) (c+1) rfl (u8s (zs++[(IntKind.wrap .u8 x)])) (by rw[u8s,u8s,iI];rfl) (by kernel_rfl) a4 (Rd.all a3) rfl rfl (fun h=>by cases h) (by constructor<;>first|omega|(simp only[maxLen];omega)) ?_);intro aC a6 a7 a8 a9 aD aa;have ab:=a5.trans (App.of a9 aa);refine yq 6<|yE (nB (nS ?_));refine q7<|yp 2 [] (.q6 ((j:Int)+1) .z)<|yE (fun a ha=>M (j+1,a6,(c+1),a7) _ ⟨by omega,by rw[qpK (by omega),qnD,<-ie,<-a2];exact a8,ab,by omega⟩ (by show k-(j+1)<k-j;omega) a (ha.kp [0,7,8,9]))
 have aE:=B;have ac:j=k:=by omega
 refine qm (eS (qd (qb (nS ?_))));refine yx 2<|q9 (yR1 (.slice (g.map at0) d m) ?_);exact⟨_,_,_,rfl,by rw[ac,<-hk,jc]at A;exact A,by omega,v⟩
theorem bN:∀x∈([]:List Int),0<=x/\x<=18446744073709551615:=fun x h=>by cases h
theorem bC {x:Int}{l:List Int}(t:∀y∈l,0<=y/\y<=18446744073709551615)(h:0<=x:=by omega)(h':x<=18446744073709551615:=by omega):∀y∈x::l,0<=y/\y<=18446744073709551615:=fun y hy=>(j9.1 hy).elim (fun e=>e▸⟨h,h'⟩) (t y)
theorem qcF {o:Option Nat}{n cap lb:Nat}{xs:List Int}{w:World}(k:Nat)(ns:List Int)(hO:Own w tU8 1 o n cap (u8s xs))(hr:Rd w (some ⟨lb,0,none⟩) (u64s ns))(hv:∀x∈ns,0<=x/\x<=18446744073709551615)(hlb:lb<w.heap.size)(hne:∀b,o=some b-> ¬b=lb)(hk:ns.length=k:=by rfl)(hz:n+10*k<=1000000000:=by omega):CP 55 [.slice (o.map at0) n cap,.slice (some ⟨lb,0,none⟩) k k].toArray w fun e w'=>
    ∃o' n' cap',e= .returned (.slice (o'.map at0) n' cap')/\Own w' tU8 1 o' n' cap' (u8s (xs++qag ns))/\n'<=n+10*k/\App w w' o o':=putV_any o n cap xs lb k ns w hO hr hk hv hlb hne hz
end Go.Proofs.YtjjcnhgpccancaaGreatDoor.X
