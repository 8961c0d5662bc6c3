/- What the proofs of LogKeys, LogBack, LogKeyless need, part 6: the walks of the program's functions and the plain laws about them. -/
import Derived.Test.YtjjcnhgpccancaaGreatDoorQB5
set_option linter.unusedSimpArgs false
set_option linter.unusedVariables false
set_option maxHeartbeats 4000000
namespace Go.Proofs.YtjjcnhgpccancaaGreatDoor.X
open Go Go.RowKit Go.Proofs.YtjjcnhgpccancaaGreatDoor
theorem qea {sr rv D:Nat}{s0 s1:RS}{fine ok:Bool}{c:Cur}{W H:Int}{w:World}(hS:SrIn w sr rv D fine s0)(hC:qj7 W H s0=(c,ok,s1))(hW:1<=W/\W<=60)(hH:1<=H/\H<=60):Calls Tryz.prog 89 [pX sr,iX W,iX H].toArray w fun e w'=>
 e= .returned (.agg #[iX c.x,iX c.y,.bool c.late,.bool c.sty.bold,.bool c.sty.under,.bool c.sty.turned,iX c.sty.fore,iX c.sty.back])/\SrIn w' sr rv D (fine&&ok) s1/\Ch (srB sr rv) w w':=by
 obtain⟨g,u1,E⟩:∃x s',qM W s0=(x,s'):=⟨_,_,rfl⟩
 obtain⟨n,u2,v⟩:∃x s',qM H u1=(x,s'):=⟨_,_,rfl⟩
 obtain⟨k,u3,p⟩:∃x s',qM 2 u2=(x,s'):=⟨_,_,rfl⟩
 have aE:=qa6 (lim:=W) (s:=s0);have aF:=qa6 (lim:=H) (s:=u1);have aG:=qa6 (lim:=2) (s:=u2);rw[E]at aE;rw[v]at aF;rw[p]at aG;dsimp only at aE aF aG;refine yA Tryz.func89 rfl<|ysr<|yo (yN [iX 0,iX 0,.bool false,.bool false,.bool false,.bool false,iX 0,iX 0] 86 fun aT d aU dP aV ao=>?_);have aW:Ch (srB sr rv) w aT:=zt (Ch.refl (srB sr rv) w) ao eZ;have f:w.heap.size<=d:=by rw[aU];exact zzs (Ch.refl (srB sr rv) w)
 have aX:=hS.blk.ch ao id;have aY:=hS.rd.ch ao id id;refine ye<|qdN (σ:=Nat) (fun m=>[(0,pX sr),(1,iX W),(6,pX d),(7,pX m)]) (fun m u=>Blk u d [iX 0,iX 0,.bool false,.bool false,.bool false,.bool false,iX 0,iX 0] 86/\Blk u m [iX g,iX n,.bool ((k:Int)==1),.bool false,.bool false,.bool false,iX 0,iX 0] 86/\Blk u sr [pX rv,.bool fine] tSr/\RdrAt u rv D u3/\Ch (srB sr rv) w u/\w.heap.size<=m/\ ¬m=d) (fun dQ a0=>?_) (fun gs u22 aH=>?_)
 ·refine qaG (· =rv) [16,20] (by kernel_rfl) (fun aZ dR a1=>?_);have ap:Ch (srB sr rv) w aZ:=zt aW a1 eZ;have L:=aX.ch a1 id;have aI:=aY.ch a1 id id;have a2:=aV.ch a1 id;refine ydC [0,1,2,3,4,6,7,8,9,10,12,13,14,15] [] (fun u hu=>(.l (qg hu (L.c 0) hS.ne) (.l (qg hu (L.c 0) hS.ne) (.l (qg hu (L.c 0) hS.ne) .z))))<|qa4 5 19 (by kernel_rfl) (by decide) ?_ ?_
  ·refine qF 5 _ (by kernel_rfl) rfl (yQ (qY (lim:=W) aI E (by omega)) ?_);rintro b0 ⟨aJ,a3⟩;have aq:Ch (srB sr rv) w b0:=zt ap a3 (fun _ _ h=> .inr h);have aK:=L.ch a3 hS.ne;have a4:=a2.ch a3 (fun(h:d=rv)=>by have:=f;have:=hS.rd.lt;omega);refine qz a3 iZ<|qa4 11 19 (by kernel_rfl) (by decide) ?_ ?_
   ·refine qF 11 _ (by kernel_rfl) rfl (yQ (qY (lim:=H) aJ v (by omega)) ?_);rintro b1 ⟨aL,a5⟩;have ar:Ch (srB sr rv) w b1:=zt aq a5 (fun _ _ h=> .inr h);have aM:=aK.ch a5 hS.ne;have a6:=a4.ch a5 (fun(h:d=rv)=>by have:=f;have:=hS.rd.lt;omega);refine qz a5 iZ<|qa4 16 19 (by kernel_rfl) (by decide) ?_ ?_
    ·refine qar 16 _ (by kernel_rfl) rfl (yQ (qY (lim:=2) aL p (by omega)) ?_);rintro b2 ⟨b3,au⟩;have aN:Ch (srB sr rv) w b2:=zt ar au (fun _ _ h=> .inr h);have b4:=aM.ch au hS.ne;have av:=a6.ch au (fun(h:d=rv)=>by have:=f;have:=hS.rd.lt;omega);refine qjy (B:=fun j=>j=rv)<|ydC [17,18] [] (fun u hu=> .z)<|yH 19 (yN [iX 0,iX 0,.bool false,.bool false,.bool false,.bool false,iX 0,iX 0] 86 fun b5 F b6 dS b8 M=>?_);have b9:Ch (srB sr rv) w b5:=zt aN M eZ;have N:=zn b6 aN;have ba:=b4.ch M id;have bb:=av.ch M id;have bc:=b3.ch M id id;refine qz M eZ<|yK 20 (yT [iX g,iX n,.bool ((k:Int)==1),.bool false,.bool false,.bool false,iX 0,iX 0] b8 fun bd bf a7=>?_);have bg:Ch (srB sr rv) w bd:=zt b9 a7 (fun i hi (h:i=F)=>by have:=N;omega);have bh:=ba.ch a7 (fun(h:sr=F)=>by have:=N;have:=hS.blk.lt;omega);have bi:=bb.ch a7 (fun(h:d=F)=>by have:=av.lt;omega);have bj:=bc.ch a7 (fun(h:rv=F)=>by have:=N;have:=hS.rd.lt;omega) (fun(h:D=F)=>by have:=N;have:=hS.rd.dlt;omega);refine q8<|yDe (fun a ha=>a0 F _ ⟨bi,bf,bh,bj,bg,N,(fun(h:F=d)=>by have:=av.lt;omega)⟩ a (ha.kp [0,1,6,7]))
    refine qF 19 _ (by kernel_rfl) rfl (yN [iX 0,iX 0,.bool false,.bool false,.bool false,.bool false,iX 0,iX 0] 86 fun bk A bl dT bm O=>?_);have bn:Ch (srB sr rv) w bk:=zt ar O eZ;have I:=zn bl ar;have bo:=aM.ch O id;have bp:=a6.ch O id;have bq:=aL.ch O id id;refine qz O eZ<|yK 16 (yQ (qY (lim:=2) bq p (by omega)) ?_);rintro br ⟨bs,a8⟩;have bt:Ch (srB sr rv) w br:=zt bn a8 (fun _ _ h=> .inr h);have bu:=bo.ch a8 hS.ne;have bv:=bp.ch a8 (fun(h:d=rv)=>by have:=f;have:=hS.rd.lt;omega);have bw:=bm.ch a8 (fun(h:A=rv)=>by have:=I;have:=hS.rd.lt;omega);refine q8<|yd [17,18] [] .z<|yK 20 (yT [iX g,iX n,.bool ((k:Int)==1),.bool false,.bool false,.bool false,iX 0,iX 0] bw fun bx bz a9=>?_);have bA:Ch (srB sr rv) w bx:=zt bt a9 (fun i hi (h:i=A)=>by have:=I;omega);have bB:=bu.ch a9 (fun(h:sr=A)=>by have:=I;have:=hS.blk.lt;omega);have bC:=bv.ch a9 (fun(h:d=A)=>by have:=a6.lt;omega);have bD:=bs.ch a9 (fun(h:rv=A)=>by have:=I;have:=hS.rd.lt;omega) (fun(h:D=A)=>by have:=I;have:=hS.rd.dlt;omega);refine q8<|yDe (fun a ha=>a0 A _ ⟨bC,bz,bB,bD,bA,I,(fun(h:A=d)=>by have:=a6.lt;omega)⟩ a (ha.kp [0,1,6,7]))
   refine qF 19 _ (by kernel_rfl) rfl (yN [iX 0,iX 0,.bool false,.bool false,.bool false,.bool false,iX 0,iX 0] 86 fun bE q bF dU bG P=>?_);have bH:Ch (srB sr rv) w bE:=zt aq P eZ;have G:=zn bF aq;have bI:=aK.ch P id;have bJ:=a4.ch P id;have bK:=aJ.ch P id id;refine qz P eZ<|yH 11 (yQ (qY (lim:=H) bK v (by omega)) ?_);rintro bL ⟨bM,Q⟩;have bN:Ch (srB sr rv) w bL:=zt bH Q (fun _ _ h=> .inr h);have bO:=bI.ch Q hS.ne;have bP:=bJ.ch Q (fun(h:d=rv)=>by have:=f;have:=hS.rd.lt;omega);have bQ:=bG.ch Q (fun(h:q=rv)=>by have:=G;have:=hS.rd.lt;omega);refine qz Q iZ<|yK 16 (yQ (qY (lim:=2) bM p (by omega)) ?_);rintro bR ⟨bS,aa⟩;have bT:Ch (srB sr rv) w bR:=zt bN aa (fun _ _ h=> .inr h);have bU:=bO.ch aa hS.ne;have bV:=bP.ch aa (fun(h:d=rv)=>by have:=f;have:=hS.rd.lt;omega);have bW:=bQ.ch aa (fun(h:q=rv)=>by have:=G;have:=hS.rd.lt;omega);refine q8<|yd [17,18] [] .z<|yK 20 (yT [iX g,iX n,.bool ((k:Int)==1),.bool false,.bool false,.bool false,iX 0,iX 0] bW fun bX bY ab=>?_);have bZ:Ch (srB sr rv) w bX:=zt bT ab (fun i hi (h:i=q)=>by have:=G;omega);have c0:=bU.ch ab (fun(h:sr=q)=>by have:=G;have:=hS.blk.lt;omega);have c1:=bV.ch ab (fun(h:d=q)=>by have:=a4.lt;omega);have c2:=bS.ch ab (fun(h:rv=q)=>by have:=G;have:=hS.rd.lt;omega) (fun(h:D=q)=>by have:=G;have:=hS.rd.dlt;omega)
   refine q8<|yDe (fun a ha=>a0 q _ ⟨c1,bY,c0,c2,bZ,G,(fun(h:q=d)=>by have:=a4.lt;omega)⟩ a (ha.kp [0,1,6,7]))
  refine qF 19 _ (by kernel_rfl) rfl (yN [iX 0,iX 0,.bool false,.bool false,.bool false,.bool false,iX 0,iX 0] 86 fun c3 o c4 dV c5 R=>?_);have c6:Ch (srB sr rv) w c3:=zt ap R eZ;have C:=zn c4 ap;have c7:=L.ch R id;have c8:=aI.ch R id id;have c9:=a2.ch R id;refine qz R eZ<|yH 5 (yQ (qY (lim:=W) c8 E (by omega)) ?_);rintro ca ⟨cb,S⟩;have cc:Ch (srB sr rv) w ca:=zt c6 S (fun _ _ h=> .inr h);have cd:=c7.ch S hS.ne;have ce:=c9.ch S (fun(h:d=rv)=>by have:=f;have:=hS.rd.lt;omega);have cf:=c5.ch S (fun(h:o=rv)=>by have:=C;have:=hS.rd.lt;omega);refine qz S iZ<|yH 11 (yQ (qY (lim:=H) cb v (by omega)) ?_);rintro cg ⟨ci,T⟩;have cj:Ch (srB sr rv) w cg:=zt cc T (fun _ _ h=> .inr h);have ck:=cd.ch T hS.ne;have cl:=ce.ch T (fun(h:d=rv)=>by have:=f;have:=hS.rd.lt;omega);have cm:=cf.ch T (fun(h:o=rv)=>by have:=C;have:=hS.rd.lt;omega);refine qz T iZ<|yK 16 (yQ (qY (lim:=2) ci p (by omega)) ?_);rintro cn ⟨co,ac⟩;have cp:Ch (srB sr rv) w cn:=zt cj ac (fun _ _ h=> .inr h);have cq:=ck.ch ac hS.ne;have cr:=cl.ch ac (fun(h:d=rv)=>by have:=f;have:=hS.rd.lt;omega);have ct:=cm.ch ac (fun(h:o=rv)=>by have:=C;have:=hS.rd.lt;omega);refine q8<|yd [17,18] [] .z<|yK 20 (yT [iX g,iX n,.bool ((k:Int)==1),.bool false,.bool false,.bool false,iX 0,iX 0] ct fun cu cv ad=>?_);have cw:Ch (srB sr rv) w cu:=zt cp ad (fun i hi (h:i=o)=>by have:=C;omega)
  have cx:=cq.ch ad (fun(h:sr=o)=>by have:=C;have:=hS.blk.lt;omega);have cy:=cr.ch ad (fun(h:d=o)=>by have:=a2.lt;omega);have cz:=co.ch ad (fun(h:rv=o)=>by have:=C;have:=hS.rd.lt;omega) (fun(h:D=o)=>by have:=C;have:=hS.rd.dlt;omega);refine q8<|yDe (fun a ha=>a0 o _ ⟨cy,cv,cx,cz,cw,C,(fun(h:o=d)=>by have:=a2.lt;omega)⟩ a (ha.kp [0,1,6,7]))
 generalize gs=m at aH⊢;obtain⟨cA,cB,aO,cC,cD,r,cE⟩:=aH;refine ysr<|yp 4 [] (.l (aO.c 0) .z) ?_;obtain⟨b,U,dW,V⟩:∃t ok s',qgB u3=(t,ok,s'):=⟨_,_,_,rfl⟩
 refine yo (yQ (qeW cC V) ?_);rintro cF ⟨cG,ae⟩;have aP:Ch (srB sr rv) w cF:=zt cD ae (fun _ _ h=> .inr h);have cH:=aO.ch ae hS.ne;have aQ:=cA.ch ae (fun(h:d=rv)=>by have:=f;have:=hS.rd.lt;omega);have aR:=cB.ch ae (fun(h:m=rv)=>by have:=r;have:=hS.rd.lt;omega);refine yq 8<|yo (yN [.bool false,.bool false,.bool false,iX 0,iX 0] 84 fun cI J cJ dX cK X=>?_);have cL:Ch (srB sr rv) w cI:=zt aP X eZ;have af:=zn cJ aP;have cM:=cH.ch X id;have cN:=aQ.ch X id;have cO:=aR.ch X id;have cP:=cG.ch X id id;refine yo (yT [.bool b.bold,.bool b.under,.bool b.turned,iX b.fore,iX b.back] cK fun cQ cR Y=>?_);have cS:Ch (srB sr rv) w cQ:=zt cL Y (fun i hi (h:i=J)=>by have:=af;omega);have cT:=cM.ch Y (fun(h:sr=J)=>by have:=af;have:=hS.blk.lt;omega);have cU:=cN.ch Y (fun(h:d=J)=>by have:=aQ.lt;omega);have cV:=cO.ch Y (fun(h:m=J)=>by have:=aR.lt;omega);have cW:=cP.ch Y (fun(h:rv=J)=>by have:=af;have:=hS.rd.lt;omega) (fun(h:D=J)=>by have:=af;have:=hS.rd.dlt;omega);refine yz 11<|ysr<|yp 2 [] (.a (cR.cs 0 5) .z)<|yo (yT [iX g,iX n,.bool ((k:Int)==1),.bool b.bold,.bool b.under,.bool b.turned,iX b.fore,iX b.back] cV fun cX K ag=>?_);have ah:Ch (srB sr rv) w cX:=zt cS ag (fun i hi (h:i=m)=>by have:=r;omega);have Z:=cT.ch ag (fun(h:sr=m)=>by have:=r;have:=hS.blk.lt;omega);have ai:=cU.ch ag (fun h=>cE h.symm)
 have aj:=cW.ch ag (fun(h:rv=m)=>by have:=r;have:=hS.rd.lt;omega) (fun(h:D=m)=>by have:=r;have:=hS.rd.dlt;omega);refine ye<|ysr<|yp 6 [] (.l (Z.c 1) .z)<|yw [44] (rY fine) (fun aw=>?_) fun aw=>?_
 ·have ax:=aw;refine yq 9<|yw [47] (rY U) (fun ay=>?_) fun ay=>?_
  ·have aS:=ay;refine yp 13 [] (.l (K.c 2) .z)<|yw [51] (rN (rE k 1)) (fun az=>?_) fun az=>?_
   ·have cY:=az;refine yq 22<|yo (yT [pX rv,.bool true] Z fun cZ d0 ak=>?_);have d1:Ch (srB sr rv) w cZ:=zt ah ak (fun _ _ h=> .inl h);have d2:=ai.ch ak (fun(h:d=sr)=>by have:=f;have:=hS.blk.lt;omega);have d3:=aj.ch ak (fun h=>hS.ne h.symm) (fun h=>hS.nd h.symm);have d4:=K.ch ak (fun(h:m=sr)=>by have:=r;have:=hS.blk.lt;omega);refine ye<|ysr<|yp 1 [] (.a (d4.cs 0 8) .z)<|yo (yT [iX g,iX n,.bool ((k:Int)==1),.bool b.bold,.bool b.under,.bool b.turned,iX b.fore,iX b.back] d2 fun d5 d6 aA=>?_);have d7:Ch (srB sr rv) w d5:=zt d1 aA (fun i hi (h:i=d)=>by have:=f;omega);have d8:=d3.ch aA (fun(h:rv=d)=>by have:=f;have:=hS.rd.lt;omega) (fun(h:D=d)=>by have:=f;have:=hS.rd.dlt;omega);have d9:=d0.ch aA (fun(h:sr=d)=>by have:=f;have:=hS.blk.lt;omega);refine ye<|q9 (qfU (.agg #[iX g,iX n,.bool ((k:Int)==1),.bool b.bold,.bool b.under,.bool b.turned,iX b.fore,iX b.back]) (.a (d6.cs 0 8) .z) ?_);rw[qfn E v p V]at hC;simp only[Prod.mk.injEq]at hC;obtain⟨rfl,rfl,rfl⟩:=hC;have da:true=(fine&&(U&&(!(k==1)||g==W-1))):=by simp[ax,aS,cY]
    exact⟨rfl,⟨by rw[<-da];exact d9,d8,hS.ne,hS.nd⟩,d7⟩
   have db:=az;refine yp 22 [] (.l (K.c 0) (.q6 (W-1) .z))<|yo (yT [pX rv,.bool ((g:Int)==(W-1))] Z fun dc dd al=>?_);have de:Ch (srB sr rv) w dc:=zt ah al (fun _ _ h=> .inl h);have df:=ai.ch al (fun(h:d=sr)=>by have:=f;have:=hS.blk.lt;omega);have dg:=aj.ch al (fun h=>hS.ne h.symm) (fun h=>hS.nd h.symm);have dh:=K.ch al (fun(h:m=sr)=>by have:=r;have:=hS.blk.lt;omega);refine ye<|ysr<|yp 1 [] (.a (dh.cs 0 8) .z)<|yo (yT [iX g,iX n,.bool ((k:Int)==1),.bool b.bold,.bool b.under,.bool b.turned,iX b.fore,iX b.back] df fun di dj aB=>?_);have dk:Ch (srB sr rv) w di:=zt de aB (fun i hi (h:i=d)=>by have:=f;omega);have dl:=dg.ch aB (fun(h:rv=d)=>by have:=f;have:=hS.rd.lt;omega) (fun(h:D=d)=>by have:=f;have:=hS.rd.dlt;omega);have dm:=dd.ch aB (fun(h:sr=d)=>by have:=f;have:=hS.blk.lt;omega);refine ye<|q9 (qfU (.agg #[iX g,iX n,.bool ((k:Int)==1),.bool b.bold,.bool b.under,.bool b.turned,iX b.fore,iX b.back]) (.a (dj.cs 0 8) .z) ?_);rw[qfn E v p V]at hC;simp only[Prod.mk.injEq]at hC;obtain⟨rfl,rfl,rfl⟩:=hC;have dn:((g:Int)==(W-1))=(fine&&(U&&(!(k==1)||g==W-1))):=by simp[ax,aS,db]
   exact⟨rfl,⟨by rw[<-dn];exact dm,dl,hS.ne,hS.nd⟩,dk⟩
  have dp:=ay;refine yq 22<|yo (yT [pX rv,.bool false] Z fun dq dr am=>?_);have ds:Ch (srB sr rv) w dq:=zt ah am (fun _ _ h=> .inl h);have dt:=ai.ch am (fun(h:d=sr)=>by have:=f;have:=hS.blk.lt;omega);have du:=aj.ch am (fun h=>hS.ne h.symm) (fun h=>hS.nd h.symm);have dv:=K.ch am (fun(h:m=sr)=>by have:=r;have:=hS.blk.lt;omega);refine ye<|ysr<|yp 1 [] (.a (dv.cs 0 8) .z)<|yo (yT [iX g,iX n,.bool ((k:Int)==1),.bool b.bold,.bool b.under,.bool b.turned,iX b.fore,iX b.back] dt fun dw dx aC=>?_);have dy:Ch (srB sr rv) w dw:=zt ds aC (fun i hi (h:i=d)=>by have:=f;omega);have dz:=du.ch aC (fun(h:rv=d)=>by have:=f;have:=hS.rd.lt;omega) (fun(h:D=d)=>by have:=f;have:=hS.rd.dlt;omega);have dA:=dr.ch aC (fun(h:sr=d)=>by have:=f;have:=hS.blk.lt;omega);refine ye<|q9 (qfU (.agg #[iX g,iX n,.bool ((k:Int)==1),.bool b.bold,.bool b.under,.bool b.turned,iX b.fore,iX b.back]) (.a (dx.cs 0 8) .z) ?_);rw[qfn E v p V]at hC;simp only[Prod.mk.injEq]at hC;obtain⟨rfl,rfl,rfl⟩:=hC;have dB:false=(fine&&(U&&(!(k==1)||g==W-1))):=by simp[ax,dp]
  exact⟨rfl,⟨by rw[<-dB];exact dA,dz,hS.ne,hS.nd⟩,dy⟩
 have dC:=aw;refine yq 22<|yo (yT [pX rv,.bool false] Z fun dD dE an=>?_);have dF:Ch (srB sr rv) w dD:=zt ah an (fun _ _ h=> .inl h);have dG:=ai.ch an (fun(h:d=sr)=>by have:=f;have:=hS.blk.lt;omega);have dH:=aj.ch an (fun h=>hS.ne h.symm) (fun h=>hS.nd h.symm);have dI:=K.ch an (fun(h:m=sr)=>by have:=r;have:=hS.blk.lt;omega);refine ye<|ysr<|yp 1 [] (.a (dI.cs 0 8) .z)<|yo (yT [iX g,iX n,.bool ((k:Int)==1),.bool b.bold,.bool b.under,.bool b.turned,iX b.fore,iX b.back] dG fun dJ dK aD=>?_);have dL:Ch (srB sr rv) w dJ:=zt dF aD (fun i hi (h:i=d)=>by have:=f;omega);have dM:=dH.ch aD (fun(h:rv=d)=>by have:=f;have:=hS.rd.lt;omega) (fun(h:D=d)=>by have:=f;have:=hS.rd.dlt;omega);have dN:=dE.ch aD (fun(h:sr=d)=>by have:=f;have:=hS.blk.lt;omega);refine ye<|q9 (qfU (.agg #[iX g,iX n,.bool ((k:Int)==1),.bool b.bold,.bool b.under,.bool b.turned,iX b.fore,iX b.back]) (.a (dK.cs 0 8) .z) ?_);rw[qfn E v p V]at hC;simp only[Prod.mk.injEq]at hC;obtain⟨rfl,rfl,rfl⟩:=hC;have dO:false=(fine&&(U&&(!(k==1)||g==W-1))):=by simp[dC]
 exact⟨rfl,⟨by rw[<-dO];exact dN,dM,hS.ne,hS.nd⟩,dL⟩
theorem qfu {sr rv D:Nat}{s0 s1:RS}{fine f1:Bool}{w:World}(hS:SrIn w sr rv D fine s0){W H:Int}{LL:List (List Cel)}(hT:qag w)(hr7:gTop<=rv)(hs7:gTop<=sr)(hW:0<=W/\W<=60)(hH:0<=H/\H<=1000)(hL:qaj W H.toNat [] s0 fine=(LL,s1,f1)):Calls Tryz.prog 90 [pX sr,iX W,iX H].toArray w fun e w'=>
 ∃o n cap rows,e= .returned (.slice (o.map at0) n cap)/\OutO w' w.heap.size o n cap rows/\rows.map RowO.l=LL/\SrIn w' sr rv D f1 s1/\Ch (srB sr rv) w w':=by
 refine yA Tryz.func90 rfl<|yx 1<|yx 1<|ys<|yx 2<|qa<|qT [0,1,7,10,11] (f':=[(0,pX sr),(1,iX W),(7,nX),(10,iX H),(11,iX 0)])<|qx (σ:=Nat×List RowO×Option Nat×Nat×Nat×RS×Bool) (fun⟨k,rows,o,n,cap,s,f⟩=>[(0,pX sr),(1,iX W),(7,.slice (o.map at0) n cap),(10,iX H),(11,iX ((k:Nat):Int))]) (fun⟨k,rows,o,n,cap,s,f⟩ u=>k<=H.toNat/\qaj W (H.toNat-k) (rows.map RowO.l) s f=qaj W H.toNat [] s0 fine/\OutO u w.heap.size o n cap rows/\rows.length=k/\Blk u sr [pX rv,.bool f] tSr/\RdrAt u rv D s/\Ch (srB sr rv) w u) (fun⟨k,rows,o,n,cap,s,f⟩=>H.toNat-k) (0,[],none,0,0,s0,fine) rfl ?_ ?_
 ·exact⟨Nat.zero_le _,rfl,OutO.nil _ _,rfl,hS.blk,hS.rd,Ch.refl _ _⟩
 intro p av U aw V;obtain⟨k,rows,o,n,cap,s,f⟩:=p;obtain⟨hk,hG,hO,X,hB,hR,v⟩:=U;have ax:=hO.len;have ay:n<=cap:=hO.own.2.1;refine yx 1<|ys<|yc (rL ((k:Nat):Int) H) (fun Y=>?_) fun Y=>?_
 ·have E:H.toNat-k=(H.toNat-(k+1))+1:=by omega
  rw[E,qaj]at hG;refine yk<|ys<|qa<|ysr<|yp 5 [] (.l (hB.c 0) .z) ?_;obtain⟨j,L,Z,A⟩:∃l ok s',qds W s=(l,ok,s'):=⟨_,_,_,rfl⟩
  refine yo (yC (qkj hR (qh v hT (fun h=>h.elim (fun(h:qdR=sr)=>by have:=g_lt;omega) (fun(h:qdR=rv)=>by have:=g_lt;omega)) (fun h=>h.elim (fun(h:qbZ=sr)=>by have:=g_lt;omega) (fun(h:qbZ=rv)=>by have:=g_lt;omega))) hr7 ⟨by omega,by omega⟩ A) ?_);rintro _ a0 ⟨d,m,q,rfl,a1,a2,M,N,F⟩;refine⟨_,rfl,?_⟩;have O:∀b,d=some b->w.heap.size<=b:=fun b e=>Nat.le_trans (zzs v) (M b e);have a3:∀z∈rows,∀b,z.b=some b->d≠some b:=fun z hz b hb e=>by have:=hO.rs.lt z hz b hb;have:=M b e;omega
  have P:Ch (srB sr rv) w a0:=zt v F (fun _ _ h=> .inr h);have G:=hB.ch F hS.ne;have a4:=hO.ch F (fun b hb hl (h:b=rv)=>by have:=hS.rd.lt;omega);refine yz 11<|ysr<|yp 6 [] (.l (G.c 1) .z)<|yw [27] (rY f) (fun I=>?_) fun I=>?_
  ·refine yq 10<|yo (yT [pX rv,.bool L] G fun a5 J B=>?_);have K:Ch (srB sr rv) w a5:=zt P B (fun _ _ h=> .inl h);have a6:=a4.ch B (fun b hb hl (h:b=sr)=>by have:=hS.blk.lt;omega);have Q:=N.ch B (fun h=>hS.ne h.symm) (fun h=>hS.nd h.symm);have a7:=a2.ch B (fun b e (h:b=sr)=>by have:=O b e;have:=hS.blk.lt;omega);refine ye<|ys<|ysr<|yp 5 [] (.l (J.c 1) .z)<|ye<|yc (rN (rY L)) (fun r=>?_) fun r=>?_
   ·refine yx 1<|q9 (rS (rB (rS (qt (rB (rS (yR1 (nX) ?_)))))));rw[A]at hG;rw[if_neg (by rw[r];simp)]at hG;rw[hL]at hG;simp only[Prod.mk.injEq]at hG;obtain⟨rfl,rfl,rfl⟩:=hG;exact⟨none,0,0,[],rfl,OutO.nil _ _,rfl,⟨(by rw[<-r];exact J),Q,hS.ne,hS.nd⟩,K⟩
   refine yk<|q7<|yq 2<|yo (yB [.slice (d.map at0) m q] 118 1 fun a8 a9 aa az ab t=>?_);have R:Ch (srB sr rv) w a8:=zt K t eZ;have aA:=zn aa K;have g:=a6.ch t (fun _ _ _ h=>h);have ac:=Q.ch t id id;have ad:=a7.ch t iZ;have ae:=J.ch t id;refine yo (qaD 118 1 24 o n cap (rows.map RowO.val) (some ⟨a9,0,none⟩) 1 1 [RowO.val (RowO.mk d m q j)] (some 40) (n+1) rfl ((rows++[(RowO.mk d m q j)]).map RowO.val) (by rw[List.map_append];rfl) (by kernel_rfl) g.own (Rd.all ab) rfl rfl (fun h=>by cases h) (by constructor<;>first|omega|(simp only[maxLen];omega)) ?_);intro af ag ah ai aj aB C;have ak:=App.of aj C;have al:=g.app (RowsO.one ad a1 O) (zzs R) (fun x hx y hy b e=>by rw[List.mem_singleton.1 hy];exact a3 x hx b e) ai ak;have am:Ch (srB sr rv) w af:=zt R C (fun i hi h=>by have:=g.lo _ h;omega);have an:=ac.ch C (fun h=>by have:=g.lo _ h;have:=hS.rd.lt;omega) (fun h=>by have:=g.lo _ h;have:=hS.rd.dlt;omega);have ao:=ae.ch C (fun h=>by have:=g.lo _ h;have:=hS.blk.lt;omega);refine yq 5<|yE (nB (nS ?_));refine q7<|yp 2 [] (.q6 (((k:Nat):Int)+1) .z) ?_;rw[A]at hG;rw[if_pos (by rw[I,r];rfl)]at hG;have ap:((rows++[(RowO.mk d m q j)])).map RowO.l=rows.map RowO.l++[j]:=by rw[List.map_append];rfl
   refine yE (fun a ha=>V (k+1,(rows++[(RowO.mk d m q j)]),ag,(n+1),ah,Z,true) _ ⟨by omega,by rw[ap];exact hG,al,by rw[List.length_append,X];rfl,by rw[<-r];exact ao,an,am⟩ (by show H.toNat-(k+1)<H.toNat-k;omega) a (ha.kp [0,1,7,10,11]))
  refine yq 10<|yo (yT [pX rv,.bool false] G fun aq S T=>?_);have ar:Ch (srB sr rv) w aq:=zt P T (fun _ _ h=> .inl h);have au:=N.ch T (fun h=>hS.ne h.symm) (fun h=>hS.nd h.symm);refine ye<|ys<|ysr<|yp 5 [] (.l (S.c 1) .z)<|ye<|yct<|yx 1<|q9 (rS (rB (rS (qt (rB (rS (yR1 (nX) ?_)))))));rw[A]at hG;rw[if_neg (by rw[I];simp)]at hG;rw[hL]at hG;simp only[Prod.mk.injEq]at hG;obtain⟨rfl,rfl,rfl⟩:=hG;exact⟨none,0,0,[],rfl,OutO.nil _ _,rfl,⟨S,au,hS.ne,hS.nd⟩,ar⟩
 have E:H.toNat-k=0:=by omega
 rw[E,qaj]at hG;refine ql (eS (qd (qb (nS ?_))));refine yx 2<|q9 (yR1 (.slice (o.map at0) n cap) ?_);rw[hL]at hG;simp only[Prod.mk.injEq]at hG;obtain⟨rfl,rfl,rfl⟩:=hG;exact⟨o,n,cap,rows,rfl,hO,rfl,⟨hB,hR,hS.ne,hS.nd⟩,v⟩
theorem qkt {W:Int}:∀{k:Nat} {out L:List (List Cel)} {s s':RS} {f f':Bool},qaj W k out s f=(L,s',f')->L.length<=out.length+k
  |0,out,L,s,s',f,f',h=>by simp only[qaj,Prod.mk.injEq]at h;rw[h.1];exact Nat.le_refl _
  |k+1,out,L,s,s',f,f',h=>by
    rw[qaj]at h
    split at h
    · have:=qkt h
      rw[List.length_append]at this
      simp only[List.length_cons,List.length_nil]at this
      omega
    · simp only[Prod.mk.injEq]at h
      rw[<-h.1];simp
theorem qpH {sr rv D:Nat}{s0 s1:RS}{fine f1:Bool}{w:World}(hS:SrIn w sr rv D fine s0){LL:List (List Cel)}(hT:qag w)(hr7:gTop<=rv)(hs7:gTop<=sr)(hBk:qfN s0 fine=(LL,s1,f1)):Calls Tryz.prog 91 [pX sr].toArray w fun e w'=>
 ∃o n cap rows,e= .returned (.slice (o.map at0) n cap)/\OutO w' w.heap.size o n cap rows/\rows.map RowO.l=LL/\SrIn w' sr rv D f1 s1/\Ch (srB sr rv) w w':=by
 refine yA Tryz.func91 rfl<|yx 1<|yx 1<|ys<|ysr<|yp 4 [] (.l (hS.blk.c 0) .z) ?_;obtain⟨g,N,q⟩:∃x s',qM (21) s0=(x,s'):=⟨_,_,rfl⟩
 have O:=qa6 (lim:=21) (s:=s0);rw[q]at O;dsimp only at O;refine yo (yQ (qY (lim:=21) hS.rd q (by omega)) ?_);rintro a8 ⟨a9,P⟩;have aa:Ch (srB sr rv) w a8:=zt (Ch.refl (srB sr rv) w) P (fun _ _ h=> .inr h);have ab:=hS.blk.ch P hS.ne;refine yz 6<|qa<|qT [0,3,9,10] (f':=[(0,pX sr),(3,nX),(9,iX g),(10,iX 0)])<|qx (σ:=Nat×List RowO×Option Nat×Nat×Nat×RS×Bool) (fun⟨k,rows,o,n,cap,s,f⟩=>[(0,pX sr),(3,.slice (o.map at0) n cap),(9,iX g),(10,iX ((k:Nat):Int))]) (fun⟨k,rows,o,n,cap,s,f⟩ u=>k<=(g:Int).toNat/\qe2 ((g:Int).toNat-k) (rows.map RowO.l) s f=qe2 (g:Int).toNat [] N fine/\OutO u w.heap.size o n cap rows/\n<=k/\Blk u sr [pX rv,.bool f] tSr/\RdrAt u rv D s/\Ch (srB sr rv) w u) (fun⟨k,rows,o,n,cap,s,f⟩=>(g:Int).toNat-k) (0,[],none,0,0,N,fine) rfl ?_ ?_
 ·exact⟨Nat.zero_le _,rfl,OutO.nil _ _,Nat.le_refl _,ab,a9,aa⟩
 intro p aB ac aC ad;obtain⟨k,rows,o,n,cap,s,f⟩:=p;obtain⟨hk,hG,hO,aD,hB,hR,Q⟩:=ac;have aE:n<=cap:=hO.own.2.1;refine yx 1<|ys<|yc (rL ((k:Nat):Int) g) (fun ae=>?_) fun ae=>?_
 ·have E:(g:Int).toNat-k=((g:Int).toNat-(k+1))+1:=by omega
  rw[E,qe2]at hG;refine yk<|ys<|qa<|ysr<|yp 4 [] (.l (hB.c 0) .z) ?_;obtain⟨j,af,r⟩:∃x s',qM (61) s=(x,s'):=⟨_,_,rfl⟩
  have R:=qa6 (lim:=61) (s:=s);rw[r]at R;dsimp only at R;refine yo (yQ (qY (lim:=61) hR r (by omega)) ?_);rintro S ⟨ag,F⟩;have G:Ch (srB sr rv) w S:=zt Q F (fun _ _ h=> .inr h);have ah:=hB.ch F hS.ne;have T:=hO.ch F (fun b hb hl (h:b=rv)=>by have:=hS.rd.lt;omega);refine yz 6<|ysr<|yq 3 ?_;obtain⟨U,ai,f36,t⟩:∃l s' f',qaj j (1:Int).toNat [] af f=(l,s',f'):=⟨_,_,_,rfl⟩
  refine yo (yC (qfu ⟨ah,ag,hS.ne,hS.nd⟩ (qh G hT (fun h=>h.elim (fun(h:qdR=sr)=>by have:=g_lt;omega) (fun(h:qdR=rv)=>by have:=g_lt;omega)) (fun h=>h.elim (fun(h:qbZ=sr)=>by have:=g_lt;omega) (fun(h:qbZ=rv)=>by have:=g_lt;omega))) hr7 hs7 (by omega) (by omega) t) ?_);rintro _ V ⟨W,H,aj,v,rfl,X,Y,Z,I⟩;refine⟨_,rfl,?_⟩;have aF:S.heap.size<=V.heap.size:=zzs I;have ak:∀x∈rows,∀y∈v,∀b,x.b=some b->y.b≠some b:=fun x hx y hy b e e'=>by have:=T.rs.lt x hx b e;have:=X.rs.lo y hy b e';omega
  have B:=X.low (zzs G);have a0:Ch (srB sr rv) w V:=zt G I iZ;have m:=T.ch I (fun b hb hl h=>h.elim (fun(h:b=sr)=>by have:=hS.blk.lt;omega) (fun(h:b=rv)=>by have:=hS.rd.lt;omega));have a1:=B.len;have al:=congrArg List.length Y;rw[List.length_map,a1]at al;have aG:U.length<=1:=by have h:=qkt t;simpa using h
  refine yo (qaD 118 1 24 o n cap (rows.map RowO.val) (W.map at0) H aj (v.map RowO.val) (some 21) (n+H) rfl ((rows++v).map RowO.val) (by rw[List.map_append]) (by kernel_rfl) m.own B.own.rd (by rw[List.length_map,a1,Nat.mul_one]) (rowO_one _) (fun h=>by cases W with|none=>exact(B.own.2.2.2.1 rfl).2|some b=>cases h) (by constructor<;>first|omega|(simp only[maxLen];omega)) ?_);intro am an ao ap aq aH C;have ar:=App.of aq C;have au:=m.app B.rs (zzs a0) ak ap ar;have a2:Ch (srB sr rv) w am:=zt a0 C (fun i hi h=>by have:=m.lo _ h;omega);have a3:=Z.rd.ch C (fun h=>by have:=m.lo _ h;have:=hS.rd.lt;omega) (fun h=>by have:=m.lo _ h;have:=hS.rd.dlt;omega);have J:=Z.blk.ch C (fun h=>by have:=m.lo _ h;have:=hS.blk.lt;omega);refine yz 6<|ysr<|yp 6 [] (.l (J.c 1) .z)<|yw [27] (rY f36) (fun K=>?_) fun K=>?_
  ·refine yq 11<|yo (yT [pX rv,.bool (decide (0<j))] J fun av L M=>?_);have a4:Ch (srB sr rv) w av:=zt a2 M (fun _ _ h=> .inl h);have a5:=a3.ch M (fun h=>hS.ne h.symm) (fun h=>hS.nd h.symm);have aw:=au.ch M (fun b hb hl (h:b=sr)=>by have:=hS.blk.lt;omega);refine ye<|ysr<|yp 5 [] (.l (L.c 1) .z)<|ye<|yc (rN (rL 0 j)) (fun A=>?_) fun A=>?_
   ·refine yx 1<|q9 (rB (rS (qt (rB (rS (yR1 (nX) ?_))))));have d:=hBk;unfold qfN at d;rw[q]at d;dsimp only at d;rw[r]at hG;dsimp only at hG;rw[show qaj j 1 [] _ _=_ from t]at hG;dsimp only at hG;rw[if_neg (by rw[decide_eq_false A];simp)]at hG;rw[d]at hG;simp only[Prod.mk.injEq]at hG;obtain⟨rfl,rfl,rfl⟩:=hG;exact⟨none,0,0,[],rfl,OutO.nil _ _,rfl,⟨(by rw[<-decide_eq_false A];exact L),a5,hS.ne,hS.nd⟩,a4⟩
   refine qk (nB (nS ?_));refine q7<|yp 2 [] (.q6 (((k:Nat):Int)+1) .z) ?_;rw[r]at hG;dsimp only at hG;rw[show qaj j 1 [] _ _=_ from t]at hG;dsimp only at hG;rw[if_pos (by rw[K,decide_eq_true A];rfl)]at hG;have ax:((rows++v)).map RowO.l=rows.map RowO.l++U:=by rw[List.map_append,Y]
   refine yE (fun a ha=>ad (k+1,(rows++v),an,(n+H),ao,ai,true) _ ⟨by omega,by rw[ax];exact hG,aw,by omega,by rw[<-decide_eq_true A];exact L,a5,a4⟩ (by show(g:Int).toNat-(k+1)<(g:Int).toNat-k;omega) a (ha.kp [0,3,9,10]))
  refine yq 11<|yo (yT [pX rv,.bool false] J fun ay a6 a7=>?_);have az:Ch (srB sr rv) w ay:=zt a2 a7 (fun _ _ h=> .inl h);have aA:=a3.ch a7 (fun h=>hS.ne h.symm) (fun h=>hS.nd h.symm);refine ye<|ysr<|yp 5 [] (.l (a6.c 1) .z)<|ye<|yct<|yx 1<|q9 (rB (rS (qt (rB (rS (yR1 (nX) ?_))))));have d:=hBk;unfold qfN at d;rw[q]at d;dsimp only at d;rw[r]at hG;dsimp only at hG;rw[show qaj j 1 [] _ _=_ from t]at hG;dsimp only at hG;rw[if_neg (by rw[K];simp)]at hG;rw[d]at hG;simp only[Prod.mk.injEq]at hG;obtain⟨rfl,rfl,rfl⟩:=hG;exact⟨none,0,0,[],rfl,OutO.nil _ _,rfl,⟨a6,aA,hS.ne,hS.nd⟩,az⟩
 have E:(g:Int).toNat-k=0:=by omega
 rw[E,qe2]at hG;refine ql (eS (qd (qb (nS ?_))));refine yx 2<|q9 (yR1 (.slice (o.map at0) n cap) ?_);have d:=hBk;unfold qfN at d;rw[q]at d;dsimp only at d;rw[d]at hG;simp only[Prod.mk.injEq]at hG;obtain⟨rfl,rfl,rfl⟩:=hG;exact⟨o,n,cap,rows,rfl,hO,rfl,⟨hB,hR,hS.ne,hS.nd⟩,Q⟩
abbrev tI:TypeId:=3
theorem put_mkU {l:List Int}(h:l.length<=3)(c:Value)(r:List Value):put (c::uX 0::uX 0::uX 0::r) 1 (l.map (Value.int .u8))=c::uX (mkU l).b0::uX (mkU l).b1::uX (mkU l).b2::r:=by
 match l,h with
 |[],_=>rfl
 |[a],_=>rfl
 |[a,b],_=>rfl
 |[a,b,c],_=>rfl
theorem qpI (x:ByteArray):qfC x=(qaW x).map (Value.int .u8):=by
 unfold qfC qaW;rw[List.map_map];rfl
theorem mkU_n (x:ByteArray):((x.size:Nat):Int)=(mkU (qaW x)).n:=by
 show _=(((qaW x).length:Nat):Int)
 rw[qeN]
theorem qiY {most:Int}{s s':RS}{x:ByteArray}(h:qb4 most s=(x,s'))(h0:0<most):(x.size:Int)<=most:=by
 have hb:=qa6 (lim:=most+1) (s:=s);unfold qb4 at h;rw[if_pos h0]at h;split at h
 ·simp only[Prod.mk.injEq]at h;rw[<-h.1];show(0:Int)<=most;omega
 rename_i n ys e;rw[e]at hb;have a:n<most+1:=hb.2.2 (by omega);have b:0<=n:=hb.1;split at h
 ·simp only[Prod.mk.injEq]at h;rw[<-h.1];show(0:Int)<=most;omega
 simp only[Prod.mk.injEq]at h;rw[<-h.1,qbn,List.length_take];omega
theorem qlc {sr rv D:Nat}{s0 s1:RS}{fine f1:Bool}{w:World}(hS:SrIn w sr rv D fine s0){p:PS}(hU:qcy w)(hr7:gTop<=rv)(hs7:gTop<=sr)(hP:qiJ s0 fine=(p,s1,f1)):Calls Tryz.prog 93 [pX sr].toArray w fun e w'=>
 ∃o n cap,e= .returned (.agg (p.vals (.slice (o.map at0) n cap)).toArray)/\Own w' tI 1 o n cap (p.params.map (Value.int .i64))/\(∀b,o=some b->w.heap.size<=b)/\SrIn w' sr rv D f1 s1/\Ch (srB sr rv) w w':=by
 obtain⟨r,u1,P⟩:∃x s',qM 8 s0=(x,s'):=⟨_,_,rfl⟩
 obtain⟨t,u2,J⟩:∃x s',qM 8 u1=(x,s'):=⟨_,_,rfl⟩
 have aH:=qa6 (lim:=8) (s:=s0);have aI:=qa6 (lim:=8) (s:=u1);rw[P]at aH;rw[J]at aI;dsimp only at aH aI;refine yA Tryz.func93 rfl<|ysr<|yo (yN [iX 0,uX 0,uX 0,uX 0,iX 0,oX,nX,oX,iX 0] 94 fun bj g bk eu bl aq=>?_);have bm:Ch (srB sr rv) w bj:=zt (Ch.refl (srB sr rv) w) aq eZ;have q:w.heap.size<=g:=by rw[bk];exact zzs (Ch.refl (srB sr rv) w)
 have bn:=hS.blk.ch aq id;have bo:=hS.rd.ch aq id id;refine ye<|qdN (σ:=Nat) (fun f=>[(0,pX sr),(2,pX g),(3,pX f)]) (fun f u=>Blk u g [iX 0,uX 0,uX 0,uX 0,iX 0,oX,nX,oX,iX 0] 94/\Blk u f [iX r,uX 0,uX 0,uX 0,iX 0,oX,nX,oX,iX t] 94/\Blk u sr [pX rv,.bool fine] tSr/\RdrAt u rv D u2/\Ch (srB sr rv) w u/\w.heap.size<=f/\ ¬f=g) (fun ev ar=>?_) (fun gs u22 aJ=>?_)
 ·refine qaG (· =rv) [9,12] (by kernel_rfl) (fun bp ew a2=>?_);have au:Ch (srB sr rv) w bp:=zt bm a2 eZ;have a3:=bn.ch a2 id;have aK:=bo.ch a2 id id;have a4:=bl.ch a2 id;refine ydC [0,1,2,3,5,6,7,8] [] (fun u hu=>(.l (qg hu (a3.c 0) hS.ne) (.l (qg hu (a3.c 0) hS.ne) .z)))<|qa4 4 11 (by kernel_rfl) (by decide) ?_ ?_
  ·refine qF 4 _ (by kernel_rfl) rfl (yQ (qY (lim:=8) aK P (by omega)) ?_);rintro bq ⟨aL,a5⟩;have av:Ch (srB sr rv) w bq:=zt au a5 (fun _ _ h=> .inr h);have aM:=a3.ch a5 hS.ne;have a6:=a4.ch a5 (fun(h:g=rv)=>by have:=q;have:=hS.rd.lt;omega);refine qz a5 iZ<|qa4 9 11 (by kernel_rfl) (by decide) ?_ ?_
   ·refine qar 9 _ (by kernel_rfl) rfl (yQ (qY (lim:=8) aL J (by omega)) ?_);rintro br ⟨bs,aw⟩;have aN:Ch (srB sr rv) w br:=zt av aw (fun _ _ h=> .inr h);have bt:=aM.ch aw hS.ne;have ax:=a6.ch aw (fun(h:g=rv)=>by have:=q;have:=hS.rd.lt;omega);refine qjy (B:=fun j=>j=rv)<|ydC [10] [] (fun u hu=> .z)<|yH 11 (yN [iX 0,uX 0,uX 0,uX 0,iX 0,oX,nX,oX,iX 0] 94 fun bu G bv ex bw Q=>?_);have bx:Ch (srB sr rv) w bu:=zt aN Q eZ;have R:=zn bv aN;have bz:=bt.ch Q id;have bA:=ax.ch Q id;have bB:=bs.ch Q id id;refine qz Q eZ<|yK 12 (yT [iX r,uX 0,uX 0,uX 0,iX 0,oX,nX,oX,iX t] bw fun bC bD a7=>?_);have bE:Ch (srB sr rv) w bC:=zt bx a7 (fun i hi (h:i=G)=>by have:=R;omega);have bF:=bz.ch a7 (fun(h:sr=G)=>by have:=R;have:=hS.blk.lt;omega);have bG:=bA.ch a7 (fun(h:g=G)=>by have:=ax.lt;omega);have bH:=bB.ch a7 (fun(h:rv=G)=>by have:=R;have:=hS.rd.lt;omega) (fun(h:D=G)=>by have:=R;have:=hS.rd.dlt;omega);refine q8<|yDe (fun a ha=>ar G _ ⟨bG,bD,bF,bH,bE,R,(fun(h:G=g)=>by have:=ax.lt;omega)⟩ a (ha.kp [0,2,3]))
   refine qF 11 _ (by kernel_rfl) rfl (yN [iX 0,uX 0,uX 0,uX 0,iX 0,oX,nX,oX,iX 0] 94 fun bI F bJ ey bK S=>?_);have bL:Ch (srB sr rv) w bI:=zt av S eZ;have K:=zn bJ av;have bM:=aM.ch S id;have bN:=a6.ch S id;have bO:=aL.ch S id id;refine qz S eZ<|yK 9 (yQ (qY (lim:=8) bO J (by omega)) ?_);rintro bP ⟨bQ,a8⟩;have bR:Ch (srB sr rv) w bP:=zt bL a8 (fun _ _ h=> .inr h);have bS:=bM.ch a8 hS.ne;have bT:=bN.ch a8 (fun(h:g=rv)=>by have:=q;have:=hS.rd.lt;omega);have bU:=bK.ch a8 (fun(h:F=rv)=>by have:=K;have:=hS.rd.lt;omega);refine q8<|yd [10] [] .z<|yK 12 (yT [iX r,uX 0,uX 0,uX 0,iX 0,oX,nX,oX,iX t] bU fun bV bW a9=>?_);have bX:Ch (srB sr rv) w bV:=zt bR a9 (fun i hi (h:i=F)=>by have:=K;omega);have bY:=bS.ch a9 (fun(h:sr=F)=>by have:=K;have:=hS.blk.lt;omega);have bZ:=bT.ch a9 (fun(h:g=F)=>by have:=a6.lt;omega);have c0:=bQ.ch a9 (fun(h:rv=F)=>by have:=K;have:=hS.rd.lt;omega) (fun(h:D=F)=>by have:=K;have:=hS.rd.dlt;omega);refine q8<|yDe (fun a ha=>ar F _ ⟨bZ,bW,bY,c0,bX,K,(fun(h:F=g)=>by have:=a6.lt;omega)⟩ a (ha.kp [0,2,3]))
  refine qF 11 _ (by kernel_rfl) rfl (yN [iX 0,uX 0,uX 0,uX 0,iX 0,oX,nX,oX,iX 0] 94 fun c1 E c2 ez c3 T=>?_);have c4:Ch (srB sr rv) w c1:=zt au T eZ;have H:=zn c2 au;have c5:=a3.ch T id;have c6:=aK.ch T id id;have c7:=a4.ch T id;refine qz T eZ<|yH 4 (yQ (qY (lim:=8) c6 P (by omega)) ?_);rintro c8 ⟨c9,U⟩;have ca:Ch (srB sr rv) w c8:=zt c4 U (fun _ _ h=> .inr h);have cb:=c5.ch U hS.ne;have cc:=c7.ch U (fun(h:g=rv)=>by have:=q;have:=hS.rd.lt;omega);have cd:=c3.ch U (fun(h:E=rv)=>by have:=H;have:=hS.rd.lt;omega);refine qz U iZ<|yK 9 (yQ (qY (lim:=8) c9 J (by omega)) ?_);rintro ce ⟨cf,aa⟩;have cg:Ch (srB sr rv) w ce:=zt ca aa (fun _ _ h=> .inr h);have ci:=cb.ch aa hS.ne;have cj:=cc.ch aa (fun(h:g=rv)=>by have:=q;have:=hS.rd.lt;omega);have ck:=cd.ch aa (fun(h:E=rv)=>by have:=H;have:=hS.rd.lt;omega);refine q8<|yd [10] [] .z<|yK 12 (yT [iX r,uX 0,uX 0,uX 0,iX 0,oX,nX,oX,iX t] ck fun cl cm ab=>?_);have cn:Ch (srB sr rv) w cl:=zt cg ab (fun i hi (h:i=E)=>by have:=H;omega);have co:=ci.ch ab (fun(h:sr=E)=>by have:=H;have:=hS.blk.lt;omega);have cp:=cj.ch ab (fun(h:g=E)=>by have:=a4.lt;omega);have cq:=cf.ch ab (fun(h:rv=E)=>by have:=H;have:=hS.rd.lt;omega) (fun(h:D=E)=>by have:=H;have:=hS.rd.dlt;omega);refine q8<|yDe (fun a ha=>ar E _ ⟨cp,cm,co,cq,cn,H,(fun(h:E=g)=>by have:=a4.lt;omega)⟩ a (ha.kp [0,2,3]))
 generalize gs=f at aJ⊢;obtain⟨cr,ct,cu,cv,cw,m,V⟩:=aJ;refine ys<|yD [7,8,11] fun cx eA W=>?_;have cy:Ch (srB sr rv) w cx:=zt cw W eZ;have aO:=cu.ch W id;have cz:=cv.ch W id id;have cA:=cr.ch W id;have cB:=ct.ch W id;refine yd (uL 0 7) [] (.l (aO.c 0) .z) ?_;obtain⟨d,cC,ac⟩:∃x s',qb4 3 u2=(x,s'):=⟨_,_,rfl⟩
 refine yK 7 (yQ (qcR (most:=3) cz ac (by decide)) ?_);rintro cD ⟨cE,ad⟩;have cF:Ch (srB sr rv) w cD:=zt cy ad (fun _ _ h=> .inr h);have cG:=aO.ch ad hS.ne;have cH:=cA.ch ad (fun(h:g=rv)=>by have:=q;have:=hS.rd.lt;omega);have cI:=cB.ch ad (fun(h:f=rv)=>by have:=m;have:=hS.rd.lt;omega);have eB:=qiY ac (by decide);refine q8 ?_;have aP:(qaW d).length<=3:=by rw[qeN];omega
 refine yK 8 (e_copyS' f 1 3 3 d (some 23) (mkU (qaW d)).n (mkU_n d) (by kernel_rfl) cI (by omega) (by simp only[List.length_cons,List.length_nil];omega) ?_);intro cJ aQ ae;rw[qpI,put_mkU aP]at aQ;have cK:Ch (srB sr rv) w cJ:=zt cF ae (fun i hi (h:i=f)=>by have:=m;omega);have cL:=cG.ch ae (fun(h:sr=f)=>by have:=m;have:=hS.blk.lt;omega);have cM:=cH.ch ae (fun h=>V h.symm);have cN:=cE.ch ae (fun(h:rv=f)=>by have:=m;have:=hS.rd.lt;omega) (fun(h:D=f)=>by have:=m;have:=hS.rd.dlt;omega);refine q8<|yd [9,10] [] .z<|yK 11 (yT [iX r,uX (mkU (qaW d)).b0,uX (mkU (qaW d)).b1,uX (mkU (qaW d)).b2,iX (mkU (qaW d)).n,oX,nX,oX,iX t] aQ fun cO cP af=>?_);have cQ:Ch (srB sr rv) w cO:=zt cK af (fun i hi (h:i=f)=>by have:=m;omega);have aR:=cL.ch af (fun(h:sr=f)=>by have:=m;have:=hS.blk.lt;omega);have cR:=cM.ch af (fun h=>V h.symm);have cS:=cN.ch af (fun(h:rv=f)=>by have:=m;have:=hS.rd.lt;omega) (fun(h:D=f)=>by have:=m;have:=hS.rd.dlt;omega);refine q8<|yDe (nS ?_);refine ysr<|yp 4 [] (.l (aR.c 0) .z) ?_;obtain⟨v,aS,ag⟩:∃x s',qb4 2 cC=(x,s'):=⟨_,_,rfl⟩
 refine yo (yQ (qcR (most:=2) cS ag (by decide)) ?_);rintro cT ⟨cU,ah⟩;have cV:Ch (srB sr rv) w cT:=zt cQ ah (fun _ _ h=> .inr h);have cW:=aR.ch ah hS.ne;have cX:=cR.ch ah (fun(h:g=rv)=>by have:=q;have:=hS.rd.lt;omega);have cY:=cP.ch ah (fun(h:f=rv)=>by have:=m;have:=hS.rd.lt;omega);have eC:=qiY ag (by decide);refine yq 6<|yo (yT [iX r,uX (mkU (qaW d)).b0,uX (mkU (qaW d)).b1,uX (mkU (qaW d)).b2,iX (mkU (qaW d)).n,.string v,nX,oX,iX t] cY fun cZ d0 ai=>?_);have d1:Ch (srB sr rv) w cZ:=zt cV ai (fun i hi (h:i=f)=>by have:=m;omega);have aT:=cW.ch ai (fun(h:sr=f)=>by have:=m;have:=hS.blk.lt;omega);have d2:=cX.ch ai (fun h=>V h.symm);have d3:=cU.ch ai (fun(h:rv=f)=>by have:=m;have:=hS.rd.lt;omega) (fun(h:D=f)=>by have:=m;have:=hS.rd.dlt;omega);refine ye<|ys<|ysr<|yp 4 [] (.l (aT.c 0) .z) ?_;obtain⟨y,aU,aj⟩:∃x s',qM (9) aS=(x,s'):=⟨_,_,rfl⟩
 have aV:=qa6 (lim:=9) (s:=aS);rw[aj]at aV;dsimp only at aV;refine yo (yQ (qY (lim:=9) d3 aj (by omega)) ?_);rintro d4 ⟨d5,ak⟩;have d6:Ch (srB sr rv) w d4:=zt d1 ak (fun _ _ h=> .inr h);have d7:=aT.ch ak hS.ne;have d8:=d2.ch ak (fun(h:g=rv)=>by have:=q;have:=hS.rd.lt;omega);have d9:=d0.ch ak (fun(h:f=rv)=>by have:=m;have:=hS.rd.lt;omega);refine yz 6<|qa<|qT [0,2,3,36,37] (f':=[(0,pX sr),(2,pX g),(3,pX f),(36,iX y),(37,iX 0)])<|qx (σ:=Nat×List Int×Option Nat×Nat×Nat×RS) (fun⟨k,l,o,n,cap,s⟩=>[(0,pX sr),(2,pX g),(3,pX f),(36,iX y),(37,iX ((k:Nat):Int))]) (fun⟨k,l,o,n,cap,s⟩ u=>k<=(y:Int).toNat/\qeR ((y:Int).toNat-k) l s=qeR (y:Int).toNat [] aU/\Own u tI 1 o n cap (l.map (Value.int .i64))/\(∀b,o=some b->w.heap.size<=b)/\(∀b,o=some b-> ¬b=f)/\(∀b,o=some b-> ¬b=g)/\n<=k/\Blk u sr [pX rv,.bool fine] tSr/\Blk u f [iX r,uX (mkU (qaW d)).b0,uX (mkU (qaW d)).b1,uX (mkU (qaW d)).b2,iX (mkU (qaW d)).n,.string v,.slice (o.map at0) n cap,oX,iX t] 94/\Blk u g [iX 0,uX 0,uX 0,uX 0,iX 0,oX,nX,oX,iX 0] 94/\RdrAt u rv D s/\Ch (srB sr rv) w u) (fun⟨k,l,o,n,cap,s⟩=>(y:Int).toNat-k) (0,[],none,0,0,aU) rfl ?_ ?_
 ·exact⟨Nat.zero_le _,rfl,Own.nil _ _ _,(fun b e=>by cases e),(fun b e=>by cases e),(fun b e=>by cases e),Nat.le_refl _,d7,d9,d8,d5,d6⟩
 intro p eD da eE db;obtain⟨k,l,o,n,cap,s⟩:=p;obtain⟨hk,hG,hO,A,ay,al,eF,hB,aW,aX,hR,aY⟩:=da;have eG:n<=cap:=hO.2.1;have dc:l.length=n:=by have h:=hO.1;simpa using h
 refine yx 1<|ys<|yc (rL ((k:Nat):Int) y) (fun dd=>?_) fun dd=>?_
 ·have az:(y:Int).toNat-k=((y:Int).toNat-(k+1))+1:=by omega
  rw[az,qeR]at hG;refine yk<|ys<|qa<|qaG (· =rv) [8,10] (by kernel_rfl) (fun de eH L=>?_);have df:Ch (srB sr rv) w de:=zt aY L eZ;have aZ:=hB.ch L id;have dg:=aX.ch L id;have b3:=aW.ch L id;have dh:=hR.ch L id id;have di:=hO.ch L iZ;refine ydC (uL 0 6) [] (fun u hu=>(.l (qg hu (b3.c 6) (fun(h:f=rv)=>by have:=m;have:=hS.rd.lt;omega)) (.l (qg hu (aZ.c 0) hS.ne) .z))) ?_;obtain⟨am,dj,aA⟩:∃x s',qM (10000) s=(x,s'):=⟨_,_,rfl⟩
  have b4:=qa6 (lim:=10000) (s:=s);rw[aA]at b4;dsimp only at b4;refine yH 6 (yQ (qY (lim:=10000) dh aA (by omega)) ?_);rintro dk ⟨dl,M⟩;have b5:Ch (srB sr rv) w dk:=zt df M (fun _ _ h=> .inr h);have dm:=aZ.ch M hS.ne;have dn:=dg.ch M (fun(h:g=rv)=>by have:=q;have:=hS.rd.lt;omega);have dp:=b3.ch M (fun(h:f=rv)=>by have:=m;have:=hS.rd.lt;omega);have b6:=di.ch M (fun b e (h:b=rv)=>by have:=A b e;have:=hS.rd.lt;omega);refine qz M iZ<|yH 7 (yB [iX am] 3 1 fun dq b8 dr eI ds I=>?_);have eJ:=zv (b:=b8) b6;have b9:Ch (srB sr rv) w dq:=zt b5 I eZ;have eK:=zn dr b5;have dt:=dm.ch I id;have ba:=dn.ch I id;have bb:=dp.ch I id;have du:=b6.ch I iZ;have dv:=dl.ch I id id;refine qz I eZ ?_;refine yK 8 (qaD 3 1 8 o n cap (l.map (Value.int .i64)) (some ⟨b8,0,none⟩) 1 1 [iX am] (some 47) (n+1) rfl ((l++[am]).map (Value.int .i64)) (by rw[List.map_append];rfl) (by kernel_rfl) du (Rd.all ds) rfl rfl (fun h=>by cases h) (by constructor<;>first|omega|(simp only[maxLen];omega)) ?_);intro dw aB bc dx bd eL N;have bf:=App.of bd N;have dy:∀b,aB=some b->w.heap.size<=b:=fun b e=>by
   rcases bd with h|⟨g',h,h'⟩
   ·exact A b (h▸e)
   rw[h]at e;have:=zi e;have:=zzs b9;omega
  have bg:=bf.apart bb.lt ay;have dz:=bf.apart ba.lt al;have dA:Ch (srB sr rv) w dw:=zt b9 N (fun i hi h=>by have:=A _ h;omega);have dB:=dt.ch N (fun h=>by have:=A _ h;have:=hS.blk.lt;omega);have dC:=ba.ch N (fun h=>al _ h rfl);have dD:=bb.ch N (fun h=>ay _ h rfl);have dE:=dv.ch N (fun h=>by have:=A _ h;have:=hS.rd.lt;omega) (fun h=>by have:=A _ h;have:=hS.rd.dlt;omega);refine q8<|yd [9] [] .z<|yK 10 (yT [iX r,uX (mkU (qaW d)).b0,uX (mkU (qaW d)).b1,uX (mkU (qaW d)).b2,iX (mkU (qaW d)).n,.string v,.slice (aB.map at0) (n+1) bc,oX,iX t] dD fun dF dG X=>?_);have dH:Ch (srB sr rv) w dF:=zt dA X (fun i hi (h:i=f)=>by have:=m;omega);have dI:=dB.ch X (fun(h:sr=f)=>by have:=m;have:=hS.blk.lt;omega);have dJ:=dC.ch X (fun h=>V h.symm);have dK:=dE.ch X (fun(h:rv=f)=>by have:=m;have:=hS.rd.lt;omega) (fun(h:D=f)=>by have:=m;have:=hS.rd.dlt;omega);have dL:=dx.ch X (fun b e (h:b=f)=>bg b e h);refine q8<|yDe (nB (nS ?_));refine q7<|yp 2 [] (.q6 (((k:Nat):Int)+1) .z) ?_;rw[aA]at hG;refine yE (fun a ha=>db (k+1,(l++[am]),aB,(n+1),bc,dj) _ ⟨by omega,hG,dL,dy,bg,dz,by omega,dI,dG,dJ,dK,dH⟩ (by show(y:Int).toNat-(k+1)<(y:Int).toNat-k;omega) a (ha.kp [0,2,3,36,37]))
 have az:(y:Int).toNat-k=0:=by omega
 rw[az,qeR]at hG;refine ql (eS (qd (qb (nS ?_))));refine ysr<|yp 4 [] (.l (hB.c 0) .z) ?_;obtain⟨C,eM,an⟩:∃x s',qb4 40 s=(x,s'):=⟨_,_,rfl⟩
 refine yo (yQ (qcR (most:=40) hR an (by decide)) ?_);rintro dM ⟨dN,Y⟩;have dO:Ch (srB sr rv) w dM:=zt aY Y (fun _ _ h=> .inr h);have dP:=hB.ch Y hS.ne;have dQ:=aX.ch Y (fun(h:g=rv)=>by have:=q;have:=hS.rd.lt;omega);have dR:=aW.ch Y (fun(h:f=rv)=>by have:=m;have:=hS.rd.lt;omega);have dS:=hO.ch Y (fun b e (h:b=rv)=>by have:=A b e;have:=hS.rd.lt;omega);have eN:=qiY an (by decide);refine yq 6<|yo (yT [iX r,uX (mkU (qaW d)).b0,uX (mkU (qaW d)).b1,uX (mkU (qaW d)).b2,iX (mkU (qaW d)).n,.string v,.slice (o.map at0) n cap,.string C,iX t] dR fun dT aC Z=>?_);have aD:Ch (srB sr rv) w dT:=zt dO Z (fun i hi (h:i=f)=>by have:=m;omega);have aE:=dP.ch Z (fun(h:sr=f)=>by have:=m;have:=hS.blk.lt;omega);have bh:=dQ.ch Z (fun h=>V h.symm);have aF:=dS.ch Z (fun b e (h:b=f)=>ay b e h);have bi:=dN.ch Z (fun(h:rv=f)=>by have:=m;have:=hS.rd.lt;omega) (fun(h:D=f)=>by have:=m;have:=hS.rd.dlt;omega);refine ye<|ysr<|yp 6 [] (.l (aE.c 1) .z)<|yw [61] (rY fine) (fun aG=>?_) fun aG=>?_
 ·refine yp 7 [] (.a (aC.cs 0 9) .z)<|yo (yQ (rightE (PS.mk r (mkU (qaW d)) v l C t) (o.map at0) n cap _ (qac aD hU (fun h=>h.elim (fun(h:qfD=sr)=>by have:=u_lt;omega) (fun(h:qfD=rv)=>by have:=u_lt;omega)) (fun h=>h.elim (fun(h:gAcc=sr)=>by have:=u_lt;omega) (fun(h:gAcc=rv)=>by have:=u_lt;omega))) (qom (qgA _) aP) aF.rd dc (by cases ho:o with|none=>rw[ho]at hO;exact .inl (hO.2.2.2.1 rfl).1|some b=>exact .inr ⟨b,0,rfl⟩) (by omega) (by dsimp only;omega)) fun dU O=>?_);have dV:Ch (srB sr rv) w dU:=zt aD O eZ;have dW:=aE.ch O id;have dX:=bh.ch O id;have dY:=aF.ch O iZ;have dZ:=bi.ch O id id;have e0:=aC.ch O id;refine yq 11<|yo (yT [pX rv,.bool (qG (PS.mk r (mkU (qaW d)) v l C t))] dW fun e1 e2 a0=>?_);have e3:Ch (srB sr rv) w e1:=zt dV a0 (fun _ _ h=> .inl h);have e4:=dX.ch a0 (fun(h:g=sr)=>by have:=q;have:=hS.blk.lt;omega);have e5:=dY.ch a0 (fun b e (h:b=sr)=>by have:=A b e;have:=hS.blk.lt;omega);have e6:=dZ.ch a0 (fun h=>hS.ne h.symm) (fun h=>hS.nd h.symm);have e7:=e0.ch a0 (fun(h:f=sr)=>by have:=m;have:=hS.blk.lt;omega);refine ye<|ysr<|yp 1 [] (.a (e7.cs 0 9) .z)<|yo (yT [iX r,uX (mkU (qaW d)).b0,uX (mkU (qaW d)).b1,uX (mkU (qaW d)).b2,iX (mkU (qaW d)).n,.string v,.slice (o.map at0) n cap,.string C,iX t] e4 fun e8 e9 ao=>?_);have ea:Ch (srB sr rv) w e8:=zt e3 ao (fun i hi (h:i=g)=>by have:=q;omega)
  have eb:=e5.ch ao (fun b e (h:b=g)=>al b e h);have ec:=e6.ch ao (fun(h:rv=g)=>by have:=q;have:=hS.rd.lt;omega) (fun(h:D=g)=>by have:=q;have:=hS.rd.dlt;omega);have ed:=e2.ch ao (fun(h:sr=g)=>by have:=q;have:=hS.blk.lt;omega);refine ye<|q9 (qfU (.agg #[iX r,uX (mkU (qaW d)).b0,uX (mkU (qaW d)).b1,uX (mkU (qaW d)).b2,iX (mkU (qaW d)).n,.string v,.slice (o.map at0) n cap,.string C,iX t]) (.a (e9.cs 0 9) .z) ?_);rw[qg6 P J ac ag aj hG.symm an]at hP;simp only[Prod.mk.injEq]at hP;obtain⟨rfl,rfl,rfl⟩:=hP;have ee:(qG (PS.mk r (mkU (qaW d)) v l C t))=(fine&&qG (PS.mk r (mkU (qaW d)) v l C t)):=by rw[aG];rfl
  exact⟨o,n,cap,rfl,eb,A,⟨by rw[<-ee];exact ed,ec,hS.ne,hS.nd⟩,ea⟩
 refine yq 11<|yo (yT [pX rv,.bool false] aE fun ef eg a1=>?_);have eh:Ch (srB sr rv) w ef:=zt aD a1 (fun _ _ h=> .inl h);have ei:=bh.ch a1 (fun(h:g=sr)=>by have:=q;have:=hS.blk.lt;omega);have ej:=aF.ch a1 (fun b e (h:b=sr)=>by have:=A b e;have:=hS.blk.lt;omega);have ek:=bi.ch a1 (fun h=>hS.ne h.symm) (fun h=>hS.nd h.symm);have el:=aC.ch a1 (fun(h:f=sr)=>by have:=m;have:=hS.blk.lt;omega);refine ye<|ysr<|yp 1 [] (.a (el.cs 0 9) .z)<|yo (yT [iX r,uX (mkU (qaW d)).b0,uX (mkU (qaW d)).b1,uX (mkU (qaW d)).b2,iX (mkU (qaW d)).n,.string v,.slice (o.map at0) n cap,.string C,iX t] ei fun em en ap=>?_);have eo:Ch (srB sr rv) w em:=zt eh ap (fun i hi (h:i=g)=>by have:=q;omega);have ep:=ej.ch ap (fun b e (h:b=g)=>al b e h);have er:=ek.ch ap (fun(h:rv=g)=>by have:=q;have:=hS.rd.lt;omega) (fun(h:D=g)=>by have:=q;have:=hS.rd.dlt;omega);have es:=eg.ch ap (fun(h:sr=g)=>by have:=q;have:=hS.blk.lt;omega);refine ye<|q9 (qfU (.agg #[iX r,uX (mkU (qaW d)).b0,uX (mkU (qaW d)).b1,uX (mkU (qaW d)).b2,iX (mkU (qaW d)).n,.string v,.slice (o.map at0) n cap,.string C,iX t]) (.a (en.cs 0 9) .z) ?_);rw[qg6 P J ac ag aj hG.symm an]at hP;simp only[Prod.mk.injEq]at hP;obtain⟨rfl,rfl,rfl⟩:=hP;have et:false=(fine&&qG (PS.mk r (mkU (qaW d)) v l C t)):=by rw[aG];rfl
 exact⟨o,n,cap,rfl,ep,A,⟨by rw[<-et];exact es,er,hS.ne,hS.nd⟩,eo⟩
theorem qpJ (k:IntKind)(hk:k= .i64\/k= .u64){x:Int}(h0:0<=x)(h1:x<9223372036854775808)(i:Nat)(hi:i<64):((qe .and k (Int.fdiv x (2^min ((i:Nat):Int).toNat (IntKind.bits k))) 1:Int)==1)=qeg x.toNat i:=by
 have:=bit_eq k hk (n:=x.toNat) (i:=i) (by omega) hi;rwa[Int.toNat_of_nonneg h0]at this
theorem i63 {x:Int}(h:x<=9223372036854775807):x<9223372036854775808:=by omega
theorem qdz {x:Int}(h0:0<=x)(h1:x<9223372036854775808)(I:Int)(i:Nat)(hi:i<64)(hI:I=((i:Nat):Int)):((qe .and .i64 (Int.fdiv x (2^min I.toNat (IntKind.bits .i64))) 1:Int)==1)=qeg x.toNat i:=by
 subst hI;exact qpJ .i64 (.inl rfl) h0 h1 i hi
theorem qnn (tb:Nat):qfO tb 0=qis 7:=by funext i;simp[qfO]
def qfR (w h top bot n tb:Int)(k:Nat):TS:={qfP w h top bot n tb with tabs:=qfO tb.toNat k}
theorem TermIn.eqT {w:World}{t g o:Nat}{ba:Option Addr}{bn bc:Nat}{pa:Option Addr}{pn pc:Nat}{T T':TS}{F F1 F2 FB FP:Nat->Prop}(h:TermIn w t g o ba bn bc pa pn pc T F F1 F2 FB FP)(e:T=T'):TermIn w t g o ba bn bc pa pn pc T' F F1 F2 FB FP:=e▸h
def flK (w h top bot n:Int)(k:Nat):TS:={startT zeroT w h with top:=top,bot:=bot,wrap:=if 0<k then qeg n.toNat 0 else true,origin:=if 1<k then qeg n.toNat 1 else false,insert:=if 2<k then qeg n.toNat 2 else false,hidden:=if 3<k then qeg n.toNat 3 else false,alt:=if 4<k then qeg n.toNat 4 else false,draw0:=if 5<k then qeg n.toNat 5 else false,draw1:=if 6<k then qeg n.toNat 6 else false,shift:=if 7<k then qeg n.toNat 7 else false}
theorem flK_end (w h top bot n tb:Int):flK w h top bot n 8=qfR w h top bot n tb 0:=by
 unfold qfR;rw[qnn];rfl
theorem qno {w h top bot n tb:Int}{k:Nat}{v:Bool}(hv:v=qeg tb.toNat k):({qfR w h top bot n tb k with tabs:=fun i=>if i=((k:Nat):Int).toNat then v else(qfR w h top bot n tb k).tabs i}:TS)=qfR w h top bot n tb (k+1):=by
 have:(fun i=>if i=((k:Nat):Int).toNat then v else qfO tb.toNat k i)=qfO tb.toNat (k+1):=by
  funext i;rw[Int.toNat_natCast,hv];unfold qfO;by_cases h:i=k
  ·subst h;rw[if_pos rfl,if_pos (Nat.lt_succ_self i)]
  rw[if_neg h];by_cases a:i<k
  ·rw[if_pos a,if_pos (by omega)]
  rw[if_neg a,if_neg (by omega)]
 show({qfP w h top bot n tb with tabs:=fun i=>if i=((k:Nat):Int).toNat then v else qfO tb.toNat k i}:TS)=_;rw[this];rfl
theorem qpK {sr rv D:Nat}{s0 s1:RS}{ot:Option TS}{w:World}(hS:SrIn w sr rv D true s0)(hT:LT w)(hr7:gTop<=rv)(hs7:gTop<=sr)(hH:qiK s0=(ot,s1)):Calls Tryz.prog 88 [pX sr].toArray w fun e w'=>
 ∃v,e= .returned v/\SrIn w' sr rv D true s1/\Ch (srB sr rv) w w'/\((ot=none/\v= .pointer none)\/ ∃t T,ot=some T/\v=pX t/\TermAt w' t T (fun b=>w.heap.size<=b/\b<w'.heap.size)):=by
 refine yA Tryz.func88 rfl<|yx 1<|ys<|qaG (· =rv) [9] (by kernel_rfl) (fun aR cV Z=>?_);have aS:Ch (srB sr rv) w aR:=zt (Ch.refl (srB sr rv) w) Z eZ;have a0:=hS.blk.ch Z id;have aT:=hS.rd.ch Z id id;refine ydC [0,1,2,3,5,6,7,8] [] (fun u hu=>(.l (qg hu (a0.c 0) hS.ne) (.l (qg hu (a0.c 0) hS.ne) .z))) ?_;obtain⟨j,al,I⟩:∃x s',qM (61) s0=(x,s'):=⟨_,_,rfl⟩
 have am:=qa6 (lim:=61) (s:=s0);rw[I]at am;dsimp only at am;refine yH 4 (yQ (qY (lim:=61) aT I (by omega)) ?_);rintro aU ⟨aV,a1⟩;have aW:Ch (srB sr rv) w aU:=zt aS a1 (fun _ _ h=> .inr h);have aX:=a0.ch a1 hS.ne;refine qz a1 iZ ?_;obtain⟨f,an,J⟩:∃x s',qM (61) al=(x,s'):=⟨_,_,rfl⟩
 have ao:=qa6 (lim:=61) (s:=al);rw[J]at ao;dsimp only at ao;refine yK 9 (yQ (qY (lim:=61) aV J (by omega)) ?_);rintro aY ⟨aZ,ap⟩;have b0:Ch (srB sr rv) w aY:=zt aW ap (fun _ _ h=> .inr h);have b1:=aX.ch ap hS.ne;refine q8<|yd [10,11] [] .z<|yDe (nS ?_);refine ys<|qaG (· =rv) [13] (by kernel_rfl) (fun b2 cW a2=>?_);have b3:Ch (srB sr rv) w b2:=zt b0 a2 eZ;have a3:=b1.ch a2 id;have b4:=aZ.ch a2 id id;refine ydC [0,1,2,3,4,5,7,8,9,10,11,12] [] (fun u hu=>(.l (qg hu (a3.c 0) hS.ne) (.q6 (f+1) (.l (qg hu (a3.c 0) hS.ne) (.q6 (f+1) .z))))) ?_;obtain⟨m,aq,K⟩:∃x s',qM ((f+1)) an=(x,s'):=⟨_,_,rfl⟩
 have ar:=qa6 (lim:=(f+1)) (s:=an);rw[K]at ar;dsimp only at ar;refine yH 6 (yQ (qY (lim:=(f+1)) b4 K (by omega)) ?_);rintro b5 ⟨b6,a4⟩;have b7:Ch (srB sr rv) w b5:=zt b3 a4 (fun _ _ h=> .inr h);have b8:=a3.ch a4 hS.ne;refine qz a4 iZ ?_;obtain⟨n,au,L⟩:∃x s',qM ((f+1)) aq=(x,s'):=⟨_,_,rfl⟩
 have av:=qa6 (lim:=(f+1)) (s:=aq);rw[L]at av;dsimp only at av;refine yK 13 (yQ (qY (lim:=(f+1)) b6 L (by omega)) ?_);rintro b9 ⟨bb,aw⟩;have bd:Ch (srB sr rv) w b9:=zt b7 aw (fun _ _ h=> .inr h);have bf:=b8.ch aw hS.ne;refine q8<|yd [14,15] [] .z<|yDe (nS ?_);refine ys<|qaG (· =rv) [9] (by kernel_rfl) (fun bg cX a5=>?_);have bh:Ch (srB sr rv) w bg:=zt bd a5 eZ;have a6:=bf.ch a5 id;have bi:=bb.ch a5 id id;refine ydC [0,1,2,3,5,6,7,8] [] (fun u hu=>(.l (qg hu (a6.c 0) hS.ne) (.l (qg hu (a6.c 0) hS.ne) .z))) ?_;obtain⟨d,ax,M⟩:∃x s',qM (256) au=(x,s'):=⟨_,_,rfl⟩
 have r:=qa6 (lim:=256) (s:=au);rw[M]at r;dsimp only at r;refine yH 4 (yQ (qY (lim:=256) bi M (by omega)) ?_);rintro bj ⟨bk,a7⟩;have bl:Ch (srB sr rv) w bj:=zt bh a7 (fun _ _ h=> .inr h);have bm:=a6.ch a7 hS.ne;refine qz a7 iZ ?_;obtain⟨y,a8,N⟩:∃x s',qM (1152921504606846976) ax=(x,s'):=⟨_,_,rfl⟩
 have U:=qa6 (lim:=1152921504606846976) (s:=ax);rw[N]at U;dsimp only at U;refine yK 9 (yQ (qY (lim:=1152921504606846976) bk N (by omega)) ?_);rintro bo ⟨ay,az⟩;have bp:Ch (srB sr rv) w bo:=zt bl az (fun _ _ h=> .inr h);have aA:=bm.ch az hS.ne;refine q8<|yd (uL 10 3) [10] (.p (q:=InR .u64 y) (qam (by omega) (by omega)) .z)<|yDe (nS ?_);refine ys<|ysr<|yp 4 [] (.l (aA.c 0) .z)<|yo (yQ (qg8 ay) fun V a9=>?_);have F:Ch (srB sr rv) w V:=zt bp a9 eZ;have O:=aA.ch a9 id;have P:=ay.ch a9 id id;refine yq 7<|yw [55] (rN (rY a8.isSome)) (fun aa=>?_) fun aa=>?_
 ·have bq:=aa;refine yz 19<|yct<|yx 1<|q9 (rS (yR1 (.pointer none) ?_));rw[qd0 I J K L M N]at hH;rw[if_pos (.inl bq)]at hH;simp only[Prod.mk.injEq]at hH;obtain⟨rfl,rfl⟩:=hH;exact⟨_,rfl,⟨O,P,hS.ne,hS.nd⟩,F,.inl ⟨rfl,rfl⟩⟩
 have br:=aa;refine yq 11<|yw [59] (rL j 1) (fun ab=>?_) fun ab=>?_
 ·have cY:=ab;refine yz 19<|yct<|yx 1<|q9 (rS (yR1 (.pointer none) ?_));rw[qd0 I J K L M N]at hH;rw[if_pos (.inr (.inl (by omega)))]at hH;simp only[Prod.mk.injEq]at hH;obtain⟨rfl,rfl⟩:=hH;exact⟨_,rfl,⟨O,P,hS.ne,hS.nd⟩,F,.inl ⟨rfl,rfl⟩⟩
 have cZ:=ab;refine yq 15<|yw [63] (rL f 1) (fun ac=>?_) fun ac=>?_
 ·have d0:=ac;refine yz 19<|yct<|yx 1<|q9 (rS (yR1 (.pointer none) ?_));rw[qd0 I J K L M N]at hH;rw[if_pos (.inr (.inr (.inl (by omega))))]at hH;simp only[Prod.mk.injEq]at hH;obtain⟨rfl,rfl⟩:=hH;exact⟨_,rfl,⟨O,P,hS.ne,hS.nd⟩,F,.inl ⟨rfl,rfl⟩⟩
 have d1:=ac;refine yz 19<|yc (rM n m) (fun ad=>?_) fun ad=>?_
 ·have d2:=ad;refine yx 1<|q9 (rS (yR1 (.pointer none) ?_));rw[qd0 I J K L M N]at hH;rw[if_pos (.inr (.inr (.inr (by omega))))]at hH;simp only[Prod.mk.injEq]at hH;obtain⟨rfl,rfl⟩:=hH;exact⟨_,rfl,⟨O,P,hS.ne,hS.nd⟩,F,.inl ⟨rfl,rfl⟩⟩
 have d3:=ad;refine yk<|ysr<|yq 2<|yo (yC (qeK j f _ (qat F hT (fun b h=>h.elim (fun(h:b=sr)=>by omega) (fun(h:b=rv)=>by omega))) (by have:=hS.rd.lt;have:=zzs F;omega)) ?_);rintro _ C ⟨t,rfl,bs,ae⟩;refine⟨_,rfl,?_⟩;have d4:gTop<=w.heap.size:=by have:=hS.rd.lt;omega
 obtain⟨g,o,ba,bn,bc,pa,pn,pc,Q,R,FB,FP,hI⟩:=bs;have bt:=hI.inF.1.1;have G:w.heap.size<=t:=Nat.le_trans (zzs F) bt;have bu:Ch (srB sr rv) w C:=zt F ae eZ;have bv:=O.ch ae id;have bw:=P.ch ae id id;refine yz 4<|ysr<|yq 6<|yo (yS hI.blk fun bx bz bA=>?_);have bB:Ch (· =t) C bx:=zt (Ch.refl (· =t) C) bA iZ;have bC:Blk _ t (TS.vals ({(startT zeroT j f)with top:=m}:TS) g o (.slice ba bn bc) (.slice pa pn pc)) qap:=Blk.to bz (by kernel_rfl);refine yq 9<|yo (yS bC fun bD bE bF=>?_);have bG:Ch (· =t) C bD:=zt bB bF iZ;have bH:Blk _ t (TS.vals ({(startT zeroT j f)with top:=m,bot:=n}:TS) g o (.slice ba bn bc) (.slice pa pn pc)) qap:=Blk.to bE (by kernel_rfl);refine ye<|ys<|yD [27,28] fun bI d5 aB=>?_;have aC:Ch (· =t) C bI:=zt bG aB eZ;have aD:=bH.ch aB id;refine ydT (uL 0 27) [] rfl (fun _=>(.i 0 (2) (.i 1 (2) .z)))<|yK 27 (yN [.pointer none,.pointer none,.pointer none,.pointer none,.pointer none,.pointer none,.pointer none,.pointer none] 196 fun bJ af bK d6 bL aE=>?_);have bM:Ch (· =t) C bJ:=zt aC aE eZ;have bN:C.heap.size<=af:=by rw[bK];exact zzs aC
 have bO:=aD.ch aE id;refine q8<|yK 28 (yT [.pointer (some ⟨t,88,none⟩),.pointer (some ⟨t,89,none⟩),.pointer (some ⟨t,90,none⟩),.pointer (some ⟨t,91,none⟩),.pointer (some ⟨t,95,none⟩),.pointer (some ⟨t,92,none⟩),.pointer (some ⟨t,93,none⟩),.pointer (some ⟨t,94,none⟩)] bL fun bP bQ aF=>?_);have aG:Ch (· =t) C bP:=zt bM aF (fun i hi (h:i=af)=>by have:=bN;omega);have bR:=bO.ch aF (fun(h:t=af)=>by have:=aD.lt;omega);refine q8<|yDe (nS ?_);refine qaJ ([(8,.int .u64 y),(9,pX t)]) (fun u=>TermIn u t g o ba bn bc pa pn pc (qfR j f m n d y 0) (fun b=>V.heap.size<=b/\b<C.heap.size) Q R FB FP/\Blk u sr [pX rv,.bool true] tSr/\RdrAt u rv D a8/\Ch (srB sr rv) w u) (fun d7 bS=>?_) (fun u138 bT=>?_)
 ·refine ysr<|yp 2 [] (.a (bQ.cs 0 8) .z)<|ye<|qa ?_;have bU:=hI.scalar (T':=({(startT zeroT j f)with top:=m,bot:=n}:TS)) aG bR rfl rfl rfl rfl;refine qT [7,8,9,106,107] (f':=[(7,iX d),(8,.int .u64 y),(9,pX t),(106,.agg #[.pointer (some ⟨t,88,none⟩),.pointer (some ⟨t,89,none⟩),.pointer (some ⟨t,90,none⟩),.pointer (some ⟨t,91,none⟩),.pointer (some ⟨t,95,none⟩),.pointer (some ⟨t,92,none⟩),.pointer (some ⟨t,93,none⟩),.pointer (some ⟨t,94,none⟩)]),(107,iX 0)])<|qx (σ:=Nat) (fun k=>[(7,iX d),(8,.int .u64 y),(9,pX t),(106,.agg #[.pointer (some ⟨t,88,none⟩),.pointer (some ⟨t,89,none⟩),.pointer (some ⟨t,90,none⟩),.pointer (some ⟨t,91,none⟩),.pointer (some ⟨t,95,none⟩),.pointer (some ⟨t,92,none⟩),.pointer (some ⟨t,93,none⟩),.pointer (some ⟨t,94,none⟩)]),(107,iX ((k:Nat):Int))]) (fun k u=>k<=8/\TermIn u t g o ba bn bc pa pn pc (flK j f m n d k) (fun b=>V.heap.size<=b/\b<C.heap.size) Q R FB FP/\Ch (· =t) C u) (fun k=>8-k) 0 rfl ?_ ?_
  ·exact⟨Nat.zero_le _,TermIn.eqT bU rfl,aG⟩
  intro k B bV d8 H;obtain⟨d9,A,E⟩:=bV;refine yx 1<|ys<|yc (rL ((k:Nat):Int) 8) (fun ag=>?_) fun ag=>?_
  ·have da:=ag;rcases(by omega:k=0\/k=1\/k=2\/k=3\/k=4\/k=5\/k=6\/k=7)with rfl|rfl|rfl|rfl|rfl|rfl|rfl|rfl
   ·refine yk<|ys<|qa<|yx 4<|q7<|yp 7 [] (.p (q:=0<=(0:Int)) (by omega) .z)<|yo (yS A.blk fun bW bX bY=>?_);have aH:Ch (· =t) B bW:=zt (Ch.refl (· =t) B) bY iZ;have bZ:Blk _ t (TS.vals ({(flK j f m n d 0)with wrap:=(((qe .and .i64 (Int.fdiv d (2^min (0:Int).toNat (IntKind.bits .i64))) 1):Int)==1)}:TS) g o (.slice ba bn bc) (.slice pa pn pc)) qap:=Blk.to bX (by kernel_rfl);refine yE (nB (nS ?_));refine q7<|yp 2 [] (.q6 1 .z) ?_;have c0:=A.scalar (T':=({(flK j f m n d 0)with wrap:=(((qe .and .i64 (Int.fdiv d (2^min (0:Int).toNat (IntKind.bits .i64))) 1):Int)==1)}:TS)) aH bZ rfl rfl rfl rfl;refine yE (fun a ha=>H 1 _ ⟨by decide,TermIn.eqT c0 (by rw[qdz r.1 (i63 r.2.1) 0 0 (by decide) rfl];rfl),zt E aH iZ⟩ (by show 8-(0+1)<8-0;omega) a (ha.kp [7,8,9,106,107]))
   ·refine yk<|ys<|qa<|yx 4<|q7<|yp 7 [] (.p (q:=0<=(1:Int)) (by omega) .z)<|yo (yS A.blk fun c1 c2 c3=>?_);have aI:Ch (· =t) B c1:=zt (Ch.refl (· =t) B) c3 iZ;have c4:Blk _ t (TS.vals ({(flK j f m n d 1)with origin:=(((qe .and .i64 (Int.fdiv d (2^min (1:Int).toNat (IntKind.bits .i64))) 1):Int)==1)}:TS) g o (.slice ba bn bc) (.slice pa pn pc)) qap:=Blk.to c2 (by kernel_rfl);refine yE (nB (nS ?_));refine q7<|yp 2 [] (.q6 2 .z) ?_;have c5:=A.scalar (T':=({(flK j f m n d 1)with origin:=(((qe .and .i64 (Int.fdiv d (2^min (1:Int).toNat (IntKind.bits .i64))) 1):Int)==1)}:TS)) aI c4 rfl rfl rfl rfl;refine yE (fun a ha=>H 2 _ ⟨by decide,TermIn.eqT c5 (by rw[qdz r.1 (i63 r.2.1) 1 1 (by decide) rfl];rfl),zt E aI iZ⟩ (by show 8-(1+1)<8-1;omega) a (ha.kp [7,8,9,106,107]))
   ·refine yk<|ys<|qa<|yx 4<|q7<|yp 7 [] (.p (q:=0<=(2:Int)) (by omega) .z)<|yo (yS A.blk fun c6 c7 c8=>?_);have aJ:Ch (· =t) B c6:=zt (Ch.refl (· =t) B) c8 iZ;have c9:Blk _ t (TS.vals ({(flK j f m n d 2)with insert:=(((qe .and .i64 (Int.fdiv d (2^min (2:Int).toNat (IntKind.bits .i64))) 1):Int)==1)}:TS) g o (.slice ba bn bc) (.slice pa pn pc)) qap:=Blk.to c7 (by kernel_rfl);refine yE (nB (nS ?_));refine q7<|yp 2 [] (.q6 3 .z) ?_;have ca:=A.scalar (T':=({(flK j f m n d 2)with insert:=(((qe .and .i64 (Int.fdiv d (2^min (2:Int).toNat (IntKind.bits .i64))) 1):Int)==1)}:TS)) aJ c9 rfl rfl rfl rfl;refine yE (fun a ha=>H 3 _ ⟨by decide,TermIn.eqT ca (by rw[qdz r.1 (i63 r.2.1) 2 2 (by decide) rfl];rfl),zt E aJ iZ⟩ (by show 8-(2+1)<8-2;omega) a (ha.kp [7,8,9,106,107]))
   ·refine yk<|ys<|qa<|yx 4<|q7<|yp 7 [] (.p (q:=0<=(3:Int)) (by omega) .z)<|yo (yS A.blk fun cb cc cd=>?_);have aK:Ch (· =t) B cb:=zt (Ch.refl (· =t) B) cd iZ;have ce:Blk _ t (TS.vals ({(flK j f m n d 3)with hidden:=(((qe .and .i64 (Int.fdiv d (2^min (3:Int).toNat (IntKind.bits .i64))) 1):Int)==1)}:TS) g o (.slice ba bn bc) (.slice pa pn pc)) qap:=Blk.to cc (by kernel_rfl);refine yE (nB (nS ?_));refine q7<|yp 2 [] (.q6 4 .z) ?_;have cf:=A.scalar (T':=({(flK j f m n d 3)with hidden:=(((qe .and .i64 (Int.fdiv d (2^min (3:Int).toNat (IntKind.bits .i64))) 1):Int)==1)}:TS)) aK ce rfl rfl rfl rfl;refine yE (fun a ha=>H 4 _ ⟨by decide,TermIn.eqT cf (by rw[qdz r.1 (i63 r.2.1) 3 3 (by decide) rfl];rfl),zt E aK iZ⟩ (by show 8-(3+1)<8-3;omega) a (ha.kp [7,8,9,106,107]))
   ·refine yk<|ys<|qa<|yx 4<|q7<|yp 7 [] (.p (q:=0<=(4:Int)) (by omega) .z)<|yo (yS A.blk fun cg ci cj=>?_);have aL:Ch (· =t) B cg:=zt (Ch.refl (· =t) B) cj iZ;have ck:Blk _ t (TS.vals ({(flK j f m n d 4)with alt:=(((qe .and .i64 (Int.fdiv d (2^min (4:Int).toNat (IntKind.bits .i64))) 1):Int)==1)}:TS) g o (.slice ba bn bc) (.slice pa pn pc)) qap:=Blk.to ci (by kernel_rfl);refine yE (nB (nS ?_));refine q7<|yp 2 [] (.q6 5 .z) ?_;have cl:=A.scalar (T':=({(flK j f m n d 4)with alt:=(((qe .and .i64 (Int.fdiv d (2^min (4:Int).toNat (IntKind.bits .i64))) 1):Int)==1)}:TS)) aL ck rfl rfl rfl rfl;refine yE (fun a ha=>H 5 _ ⟨by decide,TermIn.eqT cl (by rw[qdz r.1 (i63 r.2.1) 4 4 (by decide) rfl];rfl),zt E aL iZ⟩ (by show 8-(4+1)<8-4;omega) a (ha.kp [7,8,9,106,107]))
   ·refine yk<|ys<|qa<|yx 4<|q7<|yp 7 [] (.p (q:=0<=(5:Int)) (by omega) .z)<|yo (yS A.blk fun cm cn co=>?_);have aM:Ch (· =t) B cm:=zt (Ch.refl (· =t) B) co iZ;have cp:Blk _ t (TS.vals ({(flK j f m n d 5)with draw0:=(((qe .and .i64 (Int.fdiv d (2^min (5:Int).toNat (IntKind.bits .i64))) 1):Int)==1)}:TS) g o (.slice ba bn bc) (.slice pa pn pc)) qap:=Blk.to cn (by kernel_rfl);refine yE (nB (nS ?_));refine q7<|yp 2 [] (.q6 6 .z) ?_;have cq:=A.scalar (T':=({(flK j f m n d 5)with draw0:=(((qe .and .i64 (Int.fdiv d (2^min (5:Int).toNat (IntKind.bits .i64))) 1):Int)==1)}:TS)) aM cp rfl rfl rfl rfl;refine yE (fun a ha=>H 6 _ ⟨by decide,TermIn.eqT cq (by rw[qdz r.1 (i63 r.2.1) 5 5 (by decide) rfl];rfl),zt E aM iZ⟩ (by show 8-(5+1)<8-5;omega) a (ha.kp [7,8,9,106,107]))
   ·refine yk<|ys<|qa<|yx 4<|q7<|yp 7 [] (.p (q:=0<=(6:Int)) (by omega) .z)<|yo (yS A.blk fun cr ct cu=>?_);have aN:Ch (· =t) B cr:=zt (Ch.refl (· =t) B) cu iZ;have cv:Blk _ t (TS.vals ({(flK j f m n d 6)with draw1:=(((qe .and .i64 (Int.fdiv d (2^min (6:Int).toNat (IntKind.bits .i64))) 1):Int)==1)}:TS) g o (.slice ba bn bc) (.slice pa pn pc)) qap:=Blk.to ct (by kernel_rfl);refine yE (nB (nS ?_));refine q7<|yp 2 [] (.q6 7 .z) ?_;have cw:=A.scalar (T':=({(flK j f m n d 6)with draw1:=(((qe .and .i64 (Int.fdiv d (2^min (6:Int).toNat (IntKind.bits .i64))) 1):Int)==1)}:TS)) aN cv rfl rfl rfl rfl;refine yE (fun a ha=>H 7 _ ⟨by decide,TermIn.eqT cw (by rw[qdz r.1 (i63 r.2.1) 6 6 (by decide) rfl];rfl),zt E aN iZ⟩ (by show 8-(6+1)<8-6;omega) a (ha.kp [7,8,9,106,107]))
   refine yk<|ys<|qa<|yx 4<|q7<|yp 7 [] (.p (q:=0<=(7:Int)) (by omega) .z)<|yo (yS A.blk fun cx cy cz=>?_);have aO:Ch (· =t) B cx:=zt (Ch.refl (· =t) B) cz iZ;have cA:Blk _ t (TS.vals ({(flK j f m n d 7)with shift:=(((qe .and .i64 (Int.fdiv d (2^min (7:Int).toNat (IntKind.bits .i64))) 1):Int)==1)}:TS) g o (.slice ba bn bc) (.slice pa pn pc)) qap:=Blk.to cy (by kernel_rfl);refine yE (nB (nS ?_));refine q7<|yp 2 [] (.q6 8 .z) ?_;have cB:=A.scalar (T':=({(flK j f m n d 7)with shift:=(((qe .and .i64 (Int.fdiv d (2^min (7:Int).toNat (IntKind.bits .i64))) 1):Int)==1)}:TS)) aO cA rfl rfl rfl rfl;refine yE (fun a ha=>H 8 _ ⟨by decide,TermIn.eqT cB (by rw[qdz r.1 (i63 r.2.1) 7 7 (by decide) rfl];rfl),zt E aO iZ⟩ (by show 8-(7+1)<8-7;omega) a (ha.kp [7,8,9,106,107]))
  have db:=ag;have cC:k=8:=by omega
  subst cC;refine ql (eS (qd (qb (fun a ha=>bS _ ⟨TermIn.eqT A (flK_end j f m n d y),bv.ch E (fun(h:sr=t)=>by have:=G;have:=hS.blk.lt;omega),bw.ch E (fun(h:rv=t)=>by have:=G;have:=hS.rd.lt;omega) (fun(h:D=t)=>by have:=G;have:=hS.rd.dlt;omega),zt bu E (fun i hi (h:i=t)=>by have:=G;omega)⟩ a (ha.kp [8,9])))))
 obtain⟨cD,cE,cF,cG⟩:=bT;refine ys<|yx 1<|qa<|qT [8,9,119] (f':=[(8,.int .u64 y),(9,pX t),(119,iX 0)])<|qx (σ:=Nat) (fun k=>[(8,.int .u64 y),(9,pX t),(119,iX ((k:Nat):Int))]) (fun k u=>k<=60/\TermIn u t g o ba bn bc pa pn pc (qfR j f m n d y k) (fun b=>V.heap.size<=b/\b<C.heap.size) Q R FB FP/\Blk u sr [pX rv,.bool true] tSr/\RdrAt u rv D a8/\Ch (srB sr rv) w u) (fun k=>60-k) 0 rfl ?_ ?_
 ·exact⟨Nat.zero_le _,cD,cE,cF,cG⟩
 intro k W cH dc cI;obtain⟨hk,X,hB,hR,ah⟩:=cH;refine yx 1<|ys<|yc (rL ((k:Nat):Int) 60) (fun ai=>?_) fun ai=>?_
 ·have dd:=ai;refine yk<|ys<|qa<|yx 2<|yD [10] fun aP de S=>?_;have cJ:Ch (srB sr rv) w aP:=zt ah S eZ;have cK:Ch (· =t) W aP:=zt (Ch.refl (· =t) W) S eZ;have cL:=X.blk.ch S id;have cM:=hB.ch S id;have cN:=hR.ch S id id;refine yd (uL 0 10) [] (.p (q:=0<=(((k:Nat):Int):Int)) (by omega) (.i ((k:Nat):Int) (60) .z))<|yK 10 (qaI (28+(((k:Nat):Int):Int).toNat*1) [.bool (((qe .and .u64 (Int.fdiv y (2^min (((k:Nat):Int):Int).toNat (IntKind.bits .u64))) 1):Int)==1)] none (by kernel_rfl) cL (by rw[qcc];simp only[List.length_cons,List.length_nil];omega) ?_);intro aj ak Y;replace ak:Blk aj t (TS.vals ({(qfR j f m n d y k)with tabs:=(fun i=>if i=(((k:Nat):Int):Int).toNat then(((qe .and .u64 (Int.fdiv y (2^min (((k:Nat):Int):Int).toNat (IntKind.bits .u64))) 1):Int)==1)else(qfR j f m n d y k).tabs i)}:TS) g o (.slice ba bn bc) (.slice pa pn pc)) qap:=Blk.to ak (qfZ (qfR j f m n d y k) _ _ _ _ _ (by omega) _);have cO:Ch (srB sr rv) w aj:=zt cJ Y (fun i hi (h:i=t)=>by have:=G;omega);have cP:Ch (· =t) W aj:=zt cK Y iZ;have cQ:=cM.ch Y (fun(h:sr=t)=>by have:=G;have:=hS.blk.lt;omega);have cR:=cN.ch Y (fun(h:rv=t)=>by have:=G;have:=hS.rd.lt;omega) (fun(h:D=t)=>by have:=G;have:=hS.rd.dlt;omega);refine q8<|yDe (nB (nS ?_));refine q7<|yp 2 [] (.q6 (((k:Nat):Int)+1) .z) ?_
  have cS:=X.scalar (T':=({(qfR j f m n d y k)with tabs:=(fun i=>if i=(((k:Nat):Int):Int).toNat then(((qe .and .u64 (Int.fdiv y (2^min (((k:Nat):Int):Int).toNat (IntKind.bits .u64))) 1):Int)==1)else(qfR j f m n d y k).tabs i)}:TS)) cP ak rfl rfl rfl rfl;have aQ:=cS;rw[qno (qpJ .u64 (.inr rfl) U.1 (i63 U.2.1) k (by omega))]at aQ;refine yE (fun a ha=>cI (k+1) _ ⟨by omega,aQ,cQ,cR,cO⟩ (by show 60-(k+1)<60-k;omega) a (ha.kp [8,9,119]))
 have df:=ai;refine ql (eS (qd (qb (nS ?_))));refine yx 2<|q9 (yR1 (pX t) ?_);rw[qd0 I J K L M N]at hH;rw[if_neg (by rintro (h|h|h|h);exact absurd (br.symm.trans h) (by decide);omega;omega;omega)]at hH;simp only[Prod.mk.injEq]at hH;obtain⟨rfl,rfl⟩:=hH;have cT:k=60:=by omega
 subst cT;have dg:=zzs F;have cU:=X.lt;have dh:=zzs ah;exact⟨_,rfl,⟨hB,hR,hS.ne,hS.nd⟩,ah,.inr ⟨t,_,rfl,rfl,TermAt.mono ⟨g,o,ba,bn,bc,pa,pn,pc,Q,R,FB,FP,(show TermIn _ t g o ba bn bc pa pn pc (qfP j f m n d y) _ Q R FB FP from X)⟩ (fun b hb=>⟨by have:=hb.1;omega,by have:=cU b hb;have:=zzs (Ch.refl (· =t) W);omega⟩) (fun b hb=>⟨hb.2,by have:=hb.1;omega⟩)⟩⟩
theorem qga {T:TS}{W H:Int}{s s1 s2 s3 s4 s5 s6 s7 s8 s9:RS}{a b c:Cur}{ha hb hc f4 f5 f6 f9:Bool}{d e k:List (List Cel)}{t r:ByteArray}{p:PS}
  (h1:qj7 W H s=(a,ha,s1)) (h2:qj7 W H s1=(b,hb,s2)) (h3:qj7 W H s2=(c,hc,s3)) (h4:qaj W H.toNat [] s3 ((ha&&hb)&&hc)=(d,s4,f4)) (h5:qaj W H.toNat [] s4 f4=(e,s5,f5)) (h6:qfN s5 f5=(k,s6,f6))
  (h7:qb4 40 s6=(t,s7)) (h8:qb4 400 s7=(r,s8)) (h9:qiJ s8 f6=(p,s9,f9)):
  qk6 T W H s=if f9=true/\s9=some []then some {T with cursor:=a,saved:=b,away:=c,grid:=⟨W,H,d⟩,other:=⟨W,H,e⟩,back:=k,title:=t,reply:=r,parser:=p}else none:=by
 unfold qk6
 rw[h1]
 dsimp only
 rw[h2]
 dsimp only
 rw[h3]
 dsimp only
 rw[h4]
 dsimp only
 rw[h5]
 dsimp only
 rw[h6]
 dsimp only
 rw[h7]
 dsimp only
 rw[h8]
 dsimp only
 rw[h9]
def qnp (x:RowO):Row:=⟨x.b.getD 0,x.n,x.cap,x.l⟩
section
variable {w:World}{m n cap:Nat}{o:Option Nat}{rows:List RowO}
theorem RowsO.some (h:RowsO w m rows){x:RowO}(hx:x∈rows)(hl:0<x.l.length):∃b,x.b=Option.some b:=by
 obtain⟨h1,h2⟩:=h.line x hx
 exact qgN h1 (by omega)
theorem RowsO.val (h:RowsO w m rows)(hl:∀x∈rows,0<x.l.length):rows.map RowO.val=(rows.map qnp).map Row.val:=by
 rw[List.map_map]
 refine List.map_congr_left fun x hx=>?_
 obtain⟨b,hb⟩:=h.some hx (hl x hx)
 show Value.slice (x.b.map at0) x.n x.cap=Value.slice (Option.some ⟨x.b.getD 0,0,none⟩) x.n x.cap
 rw[hb];rfl
theorem RowsO.each (h:RowsO w m rows)(hl:∀x∈rows,0<x.l.length):∀y∈rows.map qnp,(LineAt w y.b y.l y.cap/\y.l.length=y.n)/\m<=y.b/\ ∃x∈rows,x.b=Option.some y.b:=fun y hy=>by
 obtain⟨x,hx,rfl⟩:=List.mem_map.1 hy
 obtain⟨b,hb⟩:=h.some hx (hl x hx)
 obtain⟨h1,h2⟩:=h.line x hx
 have e:(qnp x).b=b:=by show x.b.getD 0=b;rw[hb];rfl
 refine⟨⟨?_,h2⟩,?_,x,hx,by rw[e,hb]⟩
 ·unfold LineAt
  rw[e]
  show Own w qdf 6 (Option.some b) x.l.length x.cap (qal x.l)
  rw[h2,<-hb]
  exact h1
 ·rw[e];exact h.lo x hx b hb
theorem RowsO.nodup (h:RowsO w m rows)(hl:∀x∈rows,0<x.l.length):((rows.map qnp).map Row.b).Nodup:=by
 rw[List.map_map]
 refine List.pairwise_map.2 (h.nd.imp_of_mem fun{x y} hx hy hxy=>?_)
 obtain⟨b,hb⟩:=h.some hx (hl x hx)
 obtain⟨c,hc⟩:=h.some hy (hl y hy)
 show¬x.b.getD 0=y.b.getD 0
 rw[hb,hc]
 intro e
 refine hxy b hb ?_
 rw[hc]
 exact congrArg Option.some e.symm
theorem OutO.grid (h:OutO w m o n cap rows){g:Nat}{W H:Int}(hg:Blk w g [.int .i64 W,.int .i64 H,.slice (o.map at0) n cap] qgf)(hgm:g<m)(hW:1<=W/\W<=60)(hH:1<=H/\H<=60)(hn:rows.length=H.toNat)(hl:∀x∈rows,(x.l.length:Int)=W)
  {F:Nat->Prop} (hF:F g/\(∀b,o=some b->F b)/\ ∀x∈rows,∀b,x.b=some b->F b) (hlt:∀b,F b->b<w.heap.size) (hhi:∀b,F b->gTop<=b):GridAt w g ⟨W,H,rows.map RowO.l⟩ F:=by
 have hl0:∀x∈rows,0<x.l.length:=fun x hx=>by have:=hl x hx;omega
 have hlen:=h.len
 obtain⟨r,rfl⟩:=qgN h.own (by omega)
 have hrm:=h.lo r rfl
 have hR:=h.rs.each hl0
 refine⟨r,cap,rows.map qnp,?_⟩
 exact
 {head:=by rw[List.length_map,hlen];exact hg
  body:=by rw[List.length_map,hlen,<-h.rs.val hl0];exact h.own
  line:=fun y hy=>(hR y hy).1
  lines:=by rw[List.map_map];rfl
  ok:=⟨hW,hH,by rw[List.length_map];exact hn,fun l hl'=>by
   obtain⟨x,hx,rfl⟩:=List.mem_map.1 hl'
   have:=hl x hx
   show x.l.length=W.toNat
   omega⟩
  gr:=by omega
  gb:=fun y hy=>by
   obtain⟨_,h2,x,hx,hb⟩:=hR y hy
   exact⟨by omega,fun e=>h.off h.own x hx _ hb (by rw[e])⟩
  nodup:=h.rs.nodup hl0
  inF:=⟨hF.1,hF.2.1 r rfl,fun y hy=>by obtain⟨_,_,x,hx,hb⟩:=hR y hy;exact hF.2.2 x hx _ hb⟩
  lt:=hlt
  hi:=hhi}
theorem OutO.linesAt (h:OutO w m o n cap rows)(hl:∀x∈rows,0<x.l.length){K:Nat->Prop}(hK:(∀b,o=some b->K b)/\ ∀x∈rows,∀b,x.b=some b->K b)(hlt:∀b,K b->b<w.heap.size)(hhi:∀b,K b->gTop<=b):LinesAt w (o.map at0) n (rows.map qnp) K:=by
 have hR:=h.rs.each hl
 exact
 {rd:=by rw[<-h.rs.val hl];exact h.own.rd
  len:=by rw[List.length_map];exact h.len
  line:=fun y hy=>(hR y hy).1
  inK:=fun y hy=>by obtain⟨_,_,x,hx,hb⟩:=hR y hy;exact hK.2 x hx _ hb
  aK:=fun ad e=>by
   cases o with
   |none=>cases e
   |some b=>cases e;exact hK.1 b rfl
  lt:=hlt
  hi:=hhi}
end
structure Under (o:Option Nat)(rows:List RowO)(m:Nat):Prop where
 o:∀b,o=some b->b<m
 r:∀x∈rows,∀b,x.b=some b->b<m
theorem OutO.under {w:World}{m n cap:Nat}{o:Option Nat}{rows:List RowO}(h:OutO w m o n cap rows):Under o rows w.heap.size:=
 ⟨fun b e=>by have:=h.own;rw[e]at this;exact this.lt,fun x hx b e=>h.rs.lt x hx b e⟩
theorem term_of {w:World}{t g q m0 m1 m2 m3 m4 n1 c1 n2 c2 n3 c3 n4 c4:Nat}{o1 o2 o3 o4:Option Nat}{r1 r2 r3:List RowO}{T:TS}(hd:DecOk T)
  (hb:Blk w t (T.vals g q (.slice (o3.map at0) n3 c3) (.slice (o4.map at0) n4 c4)) qap)
  (hg:Blk w g [.int .i64 T.grid.w,.int .i64 T.grid.h,.slice (o1.map at0) n1 c1] qgf) (hq:Blk w q [.int .i64 T.grid.w,.int .i64 T.grid.h,.slice (o2.map at0) n2 c2] qgf)
  (h1:OutO w m1 o1 n1 c1 r1) (h2:OutO w m2 o2 n2 c2 r2) (h3:OutO w m3 o3 n3 c3 r3) (h4:Own w tI 1 o4 n4 c4 (T.parser.params.map (Value.int .i64))) (l4:∀b,o4=some b->m4<=b)
  (e1:T.grid.lines=r1.map RowO.l) (e2:T.other.lines=r2.map RowO.l) (e3:T.back=r3.map RowO.l)
  (k1:Under o1 r1 m2) (k2:Under o2 r2 m3) (k3:Under o3 r3 m4) (h7:gTop<=m0) (ht:m0<=t/\t<m1) (hgm:m0<=g/\g<m1) (hqm:m0<=q/\q<m1) (htg:¬t=g) (htq:¬t=q) (hgq:¬g=q) (hm:m1<=m2/\m2<=m3/\m3<=m4/\m4<=w.heap.size):
  TermAt w t T (fun b=>m0<=b/\b<w.heap.size):=by
 obtain⟨⟨G1w,G1h,G1l⟩,⟨G2w,G2h,G2l⟩,cu,sa,aw,top,bot,tabs,wr,og,ins,hid,d0,d1,sh,al,ti,bk,pp,re⟩:=T
 have u3:=h3.under
 have hw:=hd.w
 have hh:=hd.h
 obtain⟨hw2,hh2⟩:=hd.o
 have g1:=hd.g
 have g2:=hd.g2
 have k0:=hd.k
 dsimp only at*
 subst e1 e2 e3 hw2 hh2
 have a1:∀x∈r1,(x.l.length:Int)=G2w:=fun x hx=>(g1.2 _ (List.mem_map_of_mem hx)).1
 have a2:∀x∈r2,(x.l.length:Int)=G2w:=fun x hx=>(g2.2 _ (List.mem_map_of_mem hx)).1
 have a3:∀x∈r3,0<x.l.length:=fun x hx=>(k0.2 _ (List.mem_map_of_mem hx)).1
 have gg1:=h1.grid hg (by omega) hw hh (by have:=g1.1;rwa[List.length_map]at this) a1 (F:=fun b=>b=g\/(m1<=b/\b<m2)) ⟨.inl rfl,fun b e=> .inr ⟨h1.lo b e,k1.o b e⟩,fun x hx b e=> .inr ⟨h1.rs.lo x hx b e,k1.r x hx b e⟩⟩ (fun b hb=>by omega) (fun b hb=>by omega)
 have gg2:=h2.grid hq (by omega) hw hh (by have:=g2.1;rwa[List.length_map]at this) a2 (F:=fun b=>b=q\/(m2<=b/\b<m3)) ⟨.inl rfl,fun b e=> .inr ⟨h2.lo b e,k2.o b e⟩,fun x hx b e=> .inr ⟨h2.rs.lo x hx b e,k2.r x hx b e⟩⟩ (fun b hb=>by omega) (fun b hb=>by omega)
 have gg3:=h3.linesAt a3 (K:=fun b=>m3<=b/\b<m4) ⟨fun b e=>⟨h3.lo b e,k3.o b e⟩,fun x hx b e=>⟨h3.rs.lo x hx b e,k3.r x hx b e⟩⟩ (fun b hb=>by omega) (fun b hb=>by omega)
 refine⟨g,q,o3.map at0,n3,c3,o4.map at0,n4,c4,fun b=>b=g\/(m1<=b/\b<m2),fun b=>b=q\/(m2<=b/\b<m3),fun b=>m3<=b/\b<m4,fun b=>m4<=b/\b<w.heap.size,?_⟩
 exact
 {blk:=hb
  g1:=gg1
  g2:=gg2
  bk:=⟨_,gg3,by rw[List.map_map];rfl⟩
  bcap:=⟨h3.own.2.1,fun e=>by
   cases o3 with
   |none=>exact(h3.own.2.2.2.1 rfl).2
   |some b=>cases e⟩
  ps:=⟨h4.rd,by have:=h4.1;rwa[List.length_map,Nat.mul_one]at this,(fun e=>by
   cases o4 with
   |none=>exact(h4.2.2.2.1 rfl).2
   |some b=>cases e),fun ad e=>by
   cases o4 with
   |none=>cases e
   |some b=>cases e;exact⟨l4 b rfl,h4.lt⟩⟩
  pz:=⟨o4,rfl⟩
  bz:=by
   cases o3 with
   |none=>exact .inl rfl
   |some b=>exact .inr ⟨b,0,rfl⟩
  t1:=fun h=>by omega
  t2:=fun h=>by omega
  tB:=fun h=>by omega
  tP:=fun h=>by omega
  a12:=fun b h1 h2=>by omega
  a1B:=fun b h1 h2=>by omega
  a2B:=fun b h1 h2=>by omega
  a1P:=fun b h1 h2=>by omega
  a2P:=fun b h1 h2=>by omega
  inF:=⟨by omega,fun b h=>by omega,fun b h=>by omega,fun b h=>by omega,fun b h=>by omega⟩
  lt:=fun b h=>h.2
  hi:=fun b h=>by omega}
theorem qpL {s s1:RS}(h:qiK s=(none,s1)):qlZ s=none:=by unfold qlZ;rw[h]
theorem qf0 {s s1:RS}{T:TS}(h:qiK s=(some T,s1)):qlZ s=qk6 T T.grid.w T.grid.h s1:=by unfold qlZ;rw[h]
theorem qpM {s s1:RS}{T:TS}(h:qiK s=(some T,s1)):T.other=T.grid:=by
 unfold qiK at h;dsimp only at h;split at h
 ·cases h
 simp only[Prod.mk.injEq,Option.some.injEq]at h;rw[<-h.1];rfl
theorem qnq (D:Nat)(a:Option Addr)(n cap:Nat)(us:List Int)(ot:Option TS)(w:World)(hT:LT w)(h7:gTop<=w.heap.size)(hr:Rd w a (u8s us))(hl:us.length=n)(hle:n<=cap)(hz:(n=0/\cap=0)\/ ∃o,a=some ⟨D,o,none⟩)(hb:qaA us)(hn:n<=100000000)(hD:D<w.heap.size)(hX:qlZ (some us)=ot):Calls Tryz.prog 62 [.slice a n cap].toArray w fun e w'=>
 ∃v x,e= .returned (.tuple #[v,iX x])/\Ch (fun _=>False) w w'/\((ot=none/\v= .pointer none/\x=1)\/ ∃t T,ot=some T/\v=pX t/\x=0/\TermAt w' t T (fun b=>w.heap.size<=b/\b<w'.heap.size)):=by
 refine yA Tryz.func62 rfl<|yx 2<|ysr<|yq 1<|yo (yC (of_any D a n cap us _ hr hl hle hz hb hn hD) ?_);rintro _ gp ⟨rv,rfl,gq,aB,bI⟩;refine⟨_,rfl,?_⟩;have aV:=zu (zm w) bI iZ;have bJ:=aB.rs;refine yq 3<|yo (yN [pX rv,.bool true] 165 fun gr sr bK gs aW aX=>?_);have gu:=zn bK aV;have B:¬sr=rv:=by have:=aB.lt;omega
 have L:¬sr=D:=by omega
 have af:=zu aV aX iZ;have aY:=aB.ch aX id id;have gv:=aW.lt;have gw:=aY.lt;refine yz 5<|ysr<|yq 1 ?_;obtain⟨gx,s1,hH⟩:∃o s',qiK (some us)=(o,s'):=⟨_,_,rfl⟩
 refine yo (yC (qpK ⟨aW,aY,B,L⟩ (qat (Up.ch af) hT (fun _ h=>h.elim)) (by omega) (by omega) hH) ?_);rintro _ d ⟨v0,rfl,aZ,bM,bN⟩;refine⟨_,rfl,?_⟩;have b3:=zu af bM (fun i hi h=>h.elim (fun(h:i=sr)=>by omega) (fun(h:i=rv)=>by omega));rcases bN with⟨rfl,rfl⟩|⟨t,T,rfl,rfl,bO⟩
 ·refine yz 3<|ys<|yx 2<|yct<|yx 2<|q9 (rS (yR2 [.pointer none,iX 1] .z ?_));rw[qpL hH]at hX;exact⟨_,_,rfl,Up.ch b3,.inl ⟨hX.symm,rfl,rfl⟩⟩
 obtain⟨g,q,ba,bn,bc,pa,pn,pc,F1,F2,FB,FP,hI⟩:=bO;obtain⟨r1,gC,gD,ag⟩:=hI.g1;obtain⟨r2,gF,gG,au⟩:=hI.g2;have gH:=hI.inF.1;have gI:=hI.inF.2.1 g ag.inF.1;have gJ:=hI.inF.2.2.1 q au.inF.1;have C:Df t g:=fun e=>hI.t1 (e▸ag.inF.1);have E:Df t q:=fun e=>hI.t2 (e▸au.inF.1);have aC:Df g q:=fun e=>hI.a12 g ag.inF.1 (e▸au.inF.1);obtain⟨gK,gL,_⟩:=ag.ok;have j:Df t sr:=(show¬t=sr by omega)
 have f:Df t rv:=(show¬t=rv by omega)
 have M:Df g sr:=(show¬g=sr by omega)
 have m:Df g rv:=(show¬g=rv by omega)
 have N:Df q sr:=(show¬q=sr by omega)
 have r:Df q rv:=(show¬q=rv by omega)
 have av:Df sr rv:=B;have gM:w.heap.size<=t:=by have:=zzs af;omega
 have gN:w.heap.size<=g:=by have:=zzs af;omega
 have gO:w.heap.size<=q:=by have:=zzs af;omega
 refine yz 3<|ys<|yx 2<|ycf<|yk<|ys<|ys<|yD [9] fun bP gP W=>?_;have b4:=zu b3 W iZ;have bQ:Ch (fun _=>True) d bP:=zt (Ch.refl (fun _=>True) d) W (fun _ _ _=>trivial);have aD:=aZ.blk.ch W id;have aE:=aZ.rd.ch W id id;have aF:=hI.blk.ch W id;have bR:=ag.head.ch W id;have bS:=au.head.ch W id;refine yd [0,1,2,3,4,5,6,7,8,11] [] .z<|yK 9 (yB [.pointer (some ⟨t,2,none⟩),.pointer (some ⟨t,10,none⟩),.pointer (some ⟨t,18,none⟩)] 167 3 fun bT a7 bU gQ b5 X=>?_);have gR:=zn bU b4;have bV:=zu b4 X iZ;have bW:Ch (fun _=>True) d bT:=zt bQ X (fun _ _ _=>trivial);have bX:=aD.ch X id;have bY:=aE.ch X id id;have bZ:=aF.ch X id;have c0:=bR.ch X id;have c1:=bS.ch X id;refine q8<|yd [10] [] .z<|yDe (nS ?_);refine qa<|yU 4 (yU1 ?_);refine yx 1<|ys<|yct<|yk<|ys<|qa<|ysr<|yp 3 [] (.i 0 (3) (.l (b5.c 0) .z))<|ye<|yD [16,18] fun c2 gS O=>?_;have c3:=zu bV O iZ;have c4:Ch (fun _=>True) d c2:=zt bW O (fun _ _ _=>trivial);have c5:=bX.ch O id;have c6:=bY.ch O id id;have aG:=bZ.ch O id;have aH:=c0.ch O id;have c7:=c1.ch O id;have c8:=b5.ch O id;refine yd (uL 0 16) [] (.l (aG.c 0) (.l (aH.c 0) (.l (aG.c 0) (.l (aH.c 1) .z)))) ?_;obtain⟨Y,c9,ca,ah⟩:∃c ok s',qj7 T.grid.w T.grid.h s1=(c,ok,s'):=⟨_,_,_,rfl⟩
 refine yK 16 (yQ (qea ⟨c5,c6,B,L⟩ ah (by omega) (by omega)) ?_);rintro cb ⟨b6,a8⟩;have cc:=zu c3 a8 (fun i hi h=>h.elim (fun(h:i=sr)=>by omega) (fun(h:i=rv)=>by omega));have cd:Ch (fun _=>True) d cb:=zt c4 a8 (fun _ _ _=>trivial);have ce:=aG.ch a8 (fun h=>h.elim j f);have cf:=aH.ch a8 (fun h=>h.elim M m);have cg:=c7.ch a8 (fun h=>h.elim N r);have ci:=c8.ch a8 (fun h=>h.elim (fun(h:a7=sr)=>by have:=aD.lt;omega) (fun(h:a7=rv)=>by have:=aE.lt;omega));refine q8<|yd [17] [] .z<|yK 18 (yS ce fun cj ck Z=>?_);have cl:=zu cc Z (fun i hi (h:i=t)=>by omega);have cm:Ch (fun _=>True) d cj:=zt cd Z (fun _ _ _=>trivial);have cn:=cf.ch Z (fun h=>C h.symm);have co:=cg.ch Z (fun h=>E h.symm);have b7:=ci.ch Z (fun(h:a7=t)=>by have:=aF.lt;omega);have cp:=b6.blk.ch Z (fun h=>j h.symm);have cq:=b6.rd.ch Z (fun h=>f h.symm) (fun(h:D=t)=>by omega);have cr:Blk _ t (TS.vals ({T with cursor:=Y}:TS) g q (.slice ba bn bc) (.slice pa pn pc)) qap:=Blk.to ck (by kernel_rfl);refine q8<|yDe (nB (nS ?_));refine q7<|yp 2 [] (.q6 1 .z)<|yE (nU (yU1 ?_));refine yx 1<|ys<|yct<|yk<|ys<|qa<|ysr<|yp 3 [] (.i 1 (3) (.l (b7.c 1) .z))<|ye<|yD [16,18] fun cs gT P=>?_;have ct:=zu cl P iZ;have cu:Ch (fun _=>True) d cs:=zt cm P (fun _ _ _=>trivial);have aI:=cn.ch P id;have cv:=co.ch P id;have cw:=b7.ch P id
 have cx:=cp.ch P id;have cy:=cq.ch P id id;have aJ:=cr.ch P id;refine yd (uL 0 16) [] (.l (aJ.c 0) (.l (aI.c 0) (.l (aJ.c 0) (.l (aI.c 1) .z)))) ?_;obtain⟨a9,cz,cA,ai⟩:∃c ok s',qj7 T.grid.w T.grid.h ca=(c,ok,s'):=⟨_,_,_,rfl⟩
 refine yK 16 (yQ (qea ⟨cx,cy,B,L⟩ ai (by omega) (by omega)) ?_);rintro cB ⟨b8,aa⟩;have cC:=zu ct aa (fun i hi h=>h.elim (fun(h:i=sr)=>by omega) (fun(h:i=rv)=>by omega));have cD:Ch (fun _=>True) d cB:=zt cu aa (fun _ _ _=>trivial);have cE:=aI.ch aa (fun h=>h.elim M m);have cF:=cv.ch aa (fun h=>h.elim N r);have cG:=cw.ch aa (fun h=>h.elim (fun(h:a7=sr)=>by have:=aD.lt;omega) (fun(h:a7=rv)=>by have:=aE.lt;omega));have cH:=aJ.ch aa (fun h=>h.elim j f);refine q8<|yd [17] [] .z<|yK 18 (yS cH fun cI cJ a0=>?_);have cK:=zu cC a0 (fun i hi (h:i=t)=>by omega);have cL:Ch (fun _=>True) d cI:=zt cD a0 (fun _ _ _=>trivial);have cM:=cE.ch a0 (fun h=>C h.symm);have cN:=cF.ch a0 (fun h=>E h.symm);have cO:=cG.ch a0 (fun(h:a7=t)=>by have:=aF.lt;omega);have cP:=b8.blk.ch a0 (fun h=>j h.symm);have cQ:=b8.rd.ch a0 (fun h=>f h.symm) (fun(h:D=t)=>by omega);have cR:Blk _ t (TS.vals ({T with cursor:=Y,saved:=a9}:TS) g q (.slice ba bn bc) (.slice pa pn pc)) qap:=Blk.to cJ (by kernel_rfl);refine q8<|yDe (nB (nS ?_));refine q7<|yp 2 [] (.q6 2 .z)<|yE (nU (yU1 ?_));refine yx 1<|ys<|yct<|yk<|ys<|qa<|ysr<|yp 3 [] (.i 2 (3) (.l (cO.c 2) .z))<|ye<|yD [16,18] fun cS gU a1=>?_;have cT:=zu cK a1 iZ;have cU:Ch (fun _=>True) d cS:=zt cL a1 (fun _ _ _=>trivial);have aK:=cM.ch a1 id;have cV:=cN.ch a1 id
 have cW:=cP.ch a1 id;have cX:=cQ.ch a1 id id;have aL:=cR.ch a1 id;refine yd (uL 0 16) [] (.l (aL.c 0) (.l (aK.c 0) (.l (aL.c 0) (.l (aK.c 1) .z)))) ?_;obtain⟨aj,cY,cZ,ak⟩:∃c ok s',qj7 T.grid.w T.grid.h cA=(c,ok,s'):=⟨_,_,_,rfl⟩
 refine yK 16 (yQ (qea ⟨cW,cX,B,L⟩ ak (by omega) (by omega)) ?_);rintro d0 ⟨b9,al⟩;have d1:=zu cT al (fun i hi h=>h.elim (fun(h:i=sr)=>by omega) (fun(h:i=rv)=>by omega));have d2:Ch (fun _=>True) d d0:=zt cU al (fun _ _ _=>trivial);have d3:=aK.ch al (fun h=>h.elim M m);have d4:=cV.ch al (fun h=>h.elim N r);have d5:=aL.ch al (fun h=>h.elim j f);refine q8<|yd [17] [] .z<|yK 18 (yS d5 fun d6 d7 ab=>?_);have d8:=zu d1 ab (fun i hi (h:i=t)=>by omega);have d9:Ch (fun _=>True) d d6:=zt d2 ab (fun _ _ _=>trivial);have da:=d3.ch ab (fun h=>C h.symm);have db:=d4.ch ab (fun h=>E h.symm);have dc:=b9.blk.ch ab (fun h=>j h.symm);have dd:=b9.rd.ch ab (fun h=>f h.symm) (fun(h:D=t)=>by omega);have de:Blk _ t (TS.vals ({T with cursor:=Y,saved:=a9,away:=aj}:TS) g q (.slice ba bn bc) (.slice pa pn pc)) qap:=Blk.to d7 (by kernel_rfl);refine q8<|yDe (nB (nS ?_));refine q7<|yp 2 [] (.q6 3 .z)<|yE (nU (yU1 ?_));refine yx 1<|ys<|ycf<|ql (eS (qd (qb (nS ?_))));refine ys<|ys<|yD [8] fun df gV a2=>?_;have bb:=zu d8 a2 iZ;have dg:Ch (fun _=>True) d df:=zt d9 a2 (fun _ _ _=>trivial);have bd:=da.ch a2 id;have dh:=db.ch a2 id;have bf:=dc.ch a2 id;have bg:=dd.ch a2 id id;have aM:=de.ch a2 id;refine yd [0,1,2,3,4,5,6,7,10] [] (.l (aM.c 0) (.l (aM.c 1) .z))<|yK 8 (yB [pX g,pX q] 82 2 fun di aw dj gW bh a3=>?_)
 have gX:=zn dj bb;have dk:=zu bb a3 iZ;have dl:Ch (fun _=>True) d di:=zt dg a3 (fun _ _ _=>trivial);have dm:=bd.ch a3 id;have dn:=dh.ch a3 id;have dp:=bf.ch a3 id;have dq:=bg.ch a3 id id;have dr:=aM.ch a3 id;refine q8<|yd [9] [] .z<|yDe (nS ?_);refine qa<|yU 3 (yU1 ?_);refine yx 1<|ys<|yct<|yk<|ys<|qa<|ysr<|yp 3 [] (.i 0 (2) (.l (bh.c 0) .z))<|ye<|yD [16,19] fun a4 gY Q=>?_;have bi:=zu dk Q iZ;have ds:Ch (fun _=>True) d a4:=zt dl Q (fun _ _ _=>trivial);have aN:=dm.ch Q id;have dt:=dn.ch Q id;have du:=dp.ch Q id;have dv:=dq.ch Q id id;have aO:=dr.ch Q id;have dw:=bh.ch Q id;refine yd (uL 0 16) [] (.l (aO.c 0) (.l (aN.c 0) (.l (aO.c 0) (.l (aN.c 1) .z)))) ?_;have gZ:d.heap.size<=a4.heap.size:=zzs ds;obtain⟨h0,dx,f194,am⟩:∃l s' f',qaj T.grid.w (T.grid.h:Int).toNat [] cZ (((true&&c9)&&cz)&&cY)=(l,s',f'):=⟨_,_,_,rfl⟩
 refine yK 16 (yC (qfu ⟨du,dv,B,L⟩ (qat (Up.ch bi) hT (fun _ h=>h.elim)).tb (by omega) (by omega) (by omega) (by omega) am) ?_);rintro _ dy ⟨bj,bk,bl,h1,rfl,dz,dA,bm,ac⟩;refine⟨_,rfl,?_⟩;have dB:=zu bi ac (fun i hi h=>h.elim (fun(h:i=sr)=>by omega) (fun(h:i=rv)=>by omega));have dC:Ch (fun _=>True) a4 dy:=zt (Ch.refl (fun _=>True) a4) ac (fun _ _ _=>trivial);have dD:=aN.ch ac (fun h=>h.elim M m);have dE:=dt.ch ac (fun h=>h.elim N r);have dF:=aO.ch ac (fun h=>h.elim j f);have dG:=dw.ch ac (fun h=>h.elim (fun(h:aw=sr)=>by have:=bf.lt;omega) (fun(h:aw=rv)=>by have:=bg.lt;omega));refine q8<|yd [17,18] [] .z<|dkeep [4,5,60,61,62,82,84] (f':=[(4,pX sr),(5,pX t),(60,.slice (some ⟨aw,0,none⟩) 2 2),(61,iX 2),(62,iX 0),(82,.slice (bj.map at0) bk bl),(84,.pointer (some ⟨g,2,none⟩))])<|yK 19 (yT [iX T.grid.w,iX T.grid.h,.slice (bj.map at0) bk bl] dD fun dH dI R=>?_);have dJ:=zu dB R (fun i hi (h:i=g)=>by omega);have dK:Ch (fun _=>True) a4 dH:=zt dC R (fun _ _ _=>trivial);have dL:=dE.ch R (fun h=>aC h.symm);have dM:=dF.ch R C;have dN:=dG.ch R (fun(h:aw=g)=>by have:=bd.lt;omega);have dO:=bm.blk.ch R (fun h=>M h.symm);have dP:=bm.rd.ch R (fun h=>m h.symm) (fun(h:D=g)=>by omega);have dQ:=dz.ch R (fun b hb hl (h:b=g)=>by omega);refine q8<|yDe (nB (nS ?_));refine q7<|yp 2 [] (.q6 1 .z)<|yE (nU (yU1 ?_))
 refine yx 1<|ys<|yct<|yk<|ys<|qa<|ysr<|yp 3 [] (.i 1 (2) (.l (dN.c 1) .z))<|ye<|yD [16,19] fun ad h2 S=>?_;have bo:=zu dJ S iZ;have dR:Ch (fun _=>True) a4 ad:=zt dK S (fun _ _ _=>trivial);have dS:=dL.ch S id;have aP:=dM.ch S id;have dT:=dO.ch S id;have dU:=dP.ch S id id;have bp:=dQ.ch S (fun _ _ _ h=>h);have aQ:=dI.ch S id;refine yd (uL 0 16) [] (.l (aP.c 0) (.l (aQ.c 0) (.l (aP.c 0) (.l (aQ.c 1) .z)))) ?_;have h3:a4.heap.size<=ad.heap.size:=zzs dR;obtain⟨h4,dV,f239,an⟩:∃l s' f',qaj T.grid.w (T.grid.h:Int).toNat [] dx f194=(l,s',f'):=⟨_,_,_,rfl⟩
 have dW:=bp.under;refine yK 16 (yC (qfu ⟨dT,dU,B,L⟩ (qat (Up.ch bo) hT (fun _ h=>h.elim)).tb (by omega) (by omega) (by omega) (by omega) an) ?_);rintro _ dX ⟨dY,dZ,e0,h5,rfl,e1,e2,bq,ae⟩;refine⟨_,rfl,?_⟩;have e3:=zu bo ae (fun i hi h=>h.elim (fun(h:i=sr)=>by omega) (fun(h:i=rv)=>by omega));have e4:Ch (fun _=>True) ad dX:=zt (Ch.refl (fun _=>True) ad) ae (fun _ _ _=>trivial);have e5:=dS.ch ae (fun h=>h.elim N r);have e6:=aP.ch ae (fun h=>h.elim j f);have e7:=bp.ch ae (fun b hb hl h=>h.elim (fun(h:b=sr)=>by omega) (fun(h:b=rv)=>by omega));have e8:=aQ.ch ae (fun h=>h.elim M m);refine q8<|yd [17,18] [] .z<|yK 19 (yT [iX T.other.w,iX T.other.h,.slice (dY.map at0) dZ e0] e5 fun k e9 U=>?_);have br:=zu e3 U (fun i hi (h:i=q)=>by omega);have ea:Ch (fun _=>True) ad k:=zt e4 U (fun _ _ _=>trivial);have eb:=e6.ch U E;have ec:=e7.ch U (fun b hb hl (h:b=q)=>by omega);have ed:=e8.ch U aC;have ee:=bq.blk.ch U (fun h=>N h.symm);have ef:=bq.rd.ch U (fun h=>r h.symm) (fun(h:D=q)=>by omega);have bs:=e1.ch U (fun b hb hl (h:b=q)=>by omega);refine q8<|yDe (nB (nS ?_));refine q7<|yp 2 [] (.q6 2 .z)<|yE (nU (yU1 ?_));refine yx 1<|ys<|ycf<|ql (eS (qd (qb (nS ?_))));refine ysr<|yq 2 ?_;have h6:ad.heap.size<=k.heap.size:=zzs ea;obtain⟨ax,eg,f273,ao⟩:∃l s' f',qfN dV f239=(l,s',f'):=⟨_,_,_,rfl⟩
 have eh:=bs.under;refine yo (yC (qpH ⟨ee,ef,B,L⟩ (qat (Up.ch br) hT (fun _ h=>h.elim)).tb (by omega) (by omega) ao) ?_);rintro _ ei ⟨ay,az,aA,h8,rfl,ej,ek,bt,a5⟩;refine⟨_,rfl,?_⟩;have el:=zu br a5 (fun i hi h=>h.elim (fun(h:i=sr)=>by omega) (fun(h:i=rv)=>by omega));have em:Ch (fun _=>True) k ei:=zt (Ch.refl (fun _=>True) k) a5 (fun _ _ _=>trivial);have en:=eb.ch a5 (fun h=>h.elim j f);have eo:=ec.ch a5 (fun b hb hl h=>h.elim (fun(h:b=sr)=>by omega) (fun(h:b=rv)=>by omega));have ep:=ed.ch a5 (fun h=>h.elim M m);have er:=bs.ch a5 (fun b hb hl h=>h.elim (fun(h:b=sr)=>by omega) (fun(h:b=rv)=>by omega));have es:=e9.ch a5 (fun h=>h.elim N r);refine yq 5<|yo (yS en fun et eu F=>?_);have ev:=zu el F (fun i hi (h:i=t)=>by omega);have ew:Ch (fun _=>True) k et:=zt em F (fun _ _ _=>trivial);have ex:=eo.ch F (fun b hb hl (h:b=t)=>by omega);have ey:=ep.ch F (fun h=>C h.symm);have ez:=er.ch F (fun b hb hl (h:b=t)=>by omega);have eA:=es.ch F (fun h=>E h.symm);have eB:=bt.blk.ch F (fun h=>j h.symm);have eC:=bt.rd.ch F (fun h=>f h.symm) (fun(h:D=t)=>by omega);have eD:=ej.ch F (fun b hb hl (h:b=t)=>by omega);have eE:Blk _ t (TS.vals ({T with back:=ax,cursor:=Y,saved:=a9,away:=aj}:TS) g q (.slice (ay.map at0) az aA) (.slice pa pn pc)) qap:=Blk.to eu (by kernel_rfl);refine ye<|ys<|qaG (· =rv) [11,14,17] (by kernel_rfl) (fun eF h9 s=>?_)
 have eG:=zu ev s iZ;have eH:Ch (fun _=>True) k eF:=zt ew s (fun _ _ _=>trivial);have eI:=ex.ch s (fun _ _ _ h=>h);have eJ:=ey.ch s id;have eK:=ez.ch s (fun _ _ _ h=>h);have eL:=eA.ch s id;have aR:=eB.ch s id;have eM:=eC.ch s id id;have eN:=eD.ch s (fun _ _ _ h=>h);have eO:=eE.ch s id;refine ydC [0,1,2,3,4,5,7,8,9,10] [] (fun u hu=>(.l (qg hu (aR.c 0) av) (.l (qg hu (aR.c 0) av) .z))) ?_;obtain⟨aS,eP,ap⟩:∃x s',qb4 40 eg=(x,s'):=⟨_,_,rfl⟩
 refine yH 6 (yQ (qcR (most:=40) eM ap (by decide)) ?_);rintro eQ ⟨eR,y⟩;have eT:=zu eG y (fun i hi (h:i=rv)=>by omega);have eU:Ch (fun _=>True) k eQ:=zt eH y (fun _ _ _=>trivial);have eV:=eI.ch y (fun b hb hl (h:b=rv)=>by omega);have eW:=eJ.ch y m;have eX:=eK.ch y (fun b hb hl (h:b=rv)=>by omega);have eY:=eL.ch y r;have eZ:=aR.ch y av;have fa:=eN.ch y (fun b hb hl (h:b=rv)=>by omega);have fb:=eO.ch y f;refine qz y iZ ?_;obtain⟨bu,fc,aq⟩:∃x s',qb4 400 eP=(x,s'):=⟨_,_,rfl⟩
 refine yK 11 (yQ (qcR (most:=400) eR aq (by decide)) ?_);rintro fd ⟨fe,G⟩;have ff:=zu eT G (fun i hi (h:i=rv)=>by omega);have fg:Ch (fun _=>True) k fd:=zt eU G (fun _ _ _=>trivial);have fh:=eV.ch G (fun b hb hl (h:b=rv)=>by omega);have fi:=eW.ch G m;have fj:=eX.ch G (fun b hb hl (h:b=rv)=>by omega);have fk:=eY.ch G r;have fl:=eZ.ch G av;have fm:=fa.ch G (fun b hb hl (h:b=rv)=>by omega);have fn:=fb.ch G f;refine q8<|yd [12,13] [] .z<|yK 14 (yS fn fun fo fp H=>?_);have fq:=zu ff H (fun i hi (h:i=t)=>by omega);have fr:Ch (fun _=>True) k fo:=zt fg H (fun _ _ _=>trivial);have fs:=fh.ch H (fun b hb hl (h:b=t)=>by omega);have ft:=fi.ch H (fun h=>C h.symm);have fu:=fj.ch H (fun b hb hl (h:b=t)=>by omega);have fv:=fk.ch H (fun h=>E h.symm);have fw:=fl.ch H (fun h=>j h.symm);have fx:=fm.ch H (fun b hb hl (h:b=t)=>by omega);have fy:=fe.ch H (fun h=>f h.symm) (fun(h:D=t)=>by omega);have fz:Blk _ t (TS.vals ({T with back:=ax,cursor:=Y,saved:=a9,away:=aj,title:=aS}:TS) g q (.slice (ay.map at0) az aA) (.slice pa pn pc)) qap:=Blk.to fp (by kernel_rfl);refine q8<|yd [15,16] [] .z<|yK 17 (yS fz fun a6 fA I=>?_);have bv:=zu fq I (fun i hi (h:i=t)=>by omega);have fB:Ch (fun _=>True) k a6:=zt fr I (fun _ _ _=>trivial);have fC:=fs.ch I (fun b hb hl (h:b=t)=>by omega);have fD:=ft.ch I (fun h=>C h.symm)
 have fE:=fu.ch I (fun b hb hl (h:b=t)=>by omega);have fF:=fv.ch I (fun h=>E h.symm);have fG:=fw.ch I (fun h=>j h.symm);have bw:=fx.ch I (fun b hb hl (h:b=t)=>by omega);have fH:=fy.ch I (fun h=>f h.symm) (fun(h:D=t)=>by omega);have fI:Blk _ t (TS.vals ({T with back:=ax,cursor:=Y,saved:=a9,away:=aj,title:=aS,reply:=bu}:TS) g q (.slice (ay.map at0) az aA) (.slice pa pn pc)) qap:=Blk.to fA (by kernel_rfl);refine q8<|yDe (nS ?_);refine ysr<|yq 2 ?_;have ha:k.heap.size<=a6.heap.size:=zzs fB;obtain⟨J,fJ,f392,ar⟩:∃p s' f',qiJ fc f273=(p,s',f'):=⟨_,_,_,rfl⟩
 have fK:=bw.under;refine yo (yC (qlc ⟨fG,fH,B,L⟩ (qat (Up.ch bv) hT (fun _ h=>h.elim)).ut (by omega) (by omega) ar) ?_);rintro _ fL ⟨fM,fN,fO,rfl,fP,bx,bz,V⟩;refine⟨_,rfl,?_⟩;have fQ:=zu bv V (fun i hi h=>h.elim (fun(h:i=sr)=>by omega) (fun(h:i=rv)=>by omega));have fR:Ch (fun _=>True) a6 fL:=zt (Ch.refl (fun _=>True) a6) V (fun _ _ _=>trivial);have fS:=fC.ch V (fun b hb hl h=>h.elim (fun(h:b=sr)=>by omega) (fun(h:b=rv)=>by omega));have fT:=fD.ch V (fun h=>h.elim M m);have fU:=fE.ch V (fun b hb hl h=>h.elim (fun(h:b=sr)=>by omega) (fun(h:b=rv)=>by omega));have fV:=fF.ch V (fun h=>h.elim N r);have fW:=bw.ch V (fun b hb hl h=>h.elim (fun(h:b=sr)=>by omega) (fun(h:b=rv)=>by omega));have fX:=fI.ch V (fun h=>h.elim j f);refine yq 5<|yo (yS fX fun fY fZ A=>?_);have bA:=zu fQ A (fun i hi (h:i=t)=>by omega);have g0:Ch (fun _=>True) a6 fY:=zt fR A (fun _ _ _=>trivial);have g3:=fS.ch A (fun b hb hl (h:b=t)=>by omega);have g4:=fT.ch A (fun h=>C h.symm);have g5:=fU.ch A (fun b hb hl (h:b=t)=>by omega);have g6:=fV.ch A (fun h=>E h.symm);have g7:=fW.ch A (fun b hb hl (h:b=t)=>by omega);have bB:=bz.blk.ch A (fun h=>j h.symm);have g8:=bz.rd.ch A (fun h=>f h.symm) (fun(h:D=t)=>by omega);have g9:=fP.ch A (fun b e (h:b=t)=>by have:=bx b e;omega);have ga:Blk _ t (TS.vals ({T with back:=ax,cursor:=Y,saved:=a9,away:=aj,title:=aS,reply:=bu,parser:={T.parser with state:=J.state,marks:=J.marks,text:=J.text,within:=J.within,utf:=⟨J.utf.b0,J.utf.b1,J.utf.b2,J.utf.n⟩,params:=J.params}}:TS) g q (.slice (ay.map at0) az aA) (.slice (fM.map at0) fN fO)) qap:=Blk.to fZ (by kernel_rfl)
 refine ye<|ys<|ysr<|yp 6 [] (.l (bB.c 1) .z)<|yw [117] (rN (rY f392)) (fun aT=>?_) fun aT=>?_
 ·have gb:=aT;refine yz 13<|yct<|yx 2<|q9 (rS (yR2 [.pointer none,iX 1] .z ?_));rw[qf0 hH,qga ah ai ak am an ao ap aq ar]at hX;rw[if_neg (fun h=>absurd (gb.symm.trans h.1) (by decide))]at hX;exact⟨_,_,rfl,Up.ch bA,.inl ⟨hX.symm,rfl,rfl⟩⟩
 have bC:=aT;refine yp 10 [] (.l (bB.c 0) .z)<|yo (yQ (qm7 g8) fun bD K=>?_);have bE:=zu bA K iZ;have gc:Ch (fun _=>True) a6 bD:=zt g0 K (fun _ _ _=>trivial);have gd:=g3.ch K (fun _ _ _ h=>h);have gf:=g4.ch K id;have gg:=g5.ch K (fun _ _ _ h=>h);have gh:=g6.ch K id;have gi:=g7.ch K (fun _ _ _ h=>h);have gj:=g9.ch K iZ;have gk:=ga.ch K id;refine yz 13<|yc (rN (rY (decide (fJ=some [])))) (fun aU=>?_) fun aU=>?_
 ·have gl:=aU;refine yx 2<|q9 (rS (yR2 [.pointer none,iX 1] .z ?_));rw[qf0 hH,qga ah ai ak am an ao ap aq ar]at hX;rw[if_neg (fun h=>of_decide_eq_false gl h.2)]at hX;exact⟨_,_,rfl,Up.ch bE,.inl ⟨hX.symm,rfl,rfl⟩⟩
 have bF:=aU;refine yk<|yx 3<|q9 (yR2 [pX t,iX 0] .z ?_);rw[qf0 hH,qga ah ai ak am an ao ap aq ar]at hX;have hc:a6.heap.size<=bD.heap.size:=zzs gc;rw[if_pos ⟨bC,of_decide_eq_true bF⟩]at hX;obtain rfl:=hX.symm;have bG:=qf0 hH;rw[qga ah ai ak am an ao ap aq ar,if_pos ⟨bC,of_decide_eq_true bF⟩]at bG;obtain⟨_,_,_,gm⟩:=qk7 bJ bG;have gn:=qpM hH;have bH:=gh;rw[gn]at bH;exact⟨_,_,rfl,Up.ch bE,.inr ⟨t,_,rfl,rfl,rfl,term_of gm (Blk.to gk (by kernel_rfl)) gf bH gd gg gi gj bx dA.symm e2.symm ek.symm dW eh fK h7 (by omega) (by omega) (by omega) C E aC (by omega)⟩⟩
theorem qch:qad []=[]:=rfl
theorem qbD (x:Int)(l:List Int):qad (x::l)=qS x.toNat++qad l:=rfl
theorem qpN {w:World}{b o:Nat}{l:List Bool}(h:Rd w (some ⟨b,o,none⟩) (l.map Value.bool)){k:Nat}(hk:k<l.length):w.cell? ⟨b,o+((k:Nat):Int).toNat*1,none⟩=some (.bool (lb l k)):=by
 rw[Int.toNat_natCast,Nat.mul_one];refine qci h k _ ?_;rw[List.getElem?_map,List.getElem?_eq_getElem hk];simp[lb,List.getD,List.getElem?_eq_getElem hk]
theorem qh0 (l:List Bool)(h:l.length<=60):qa8 l<2^60:=Nat.lt_of_lt_of_le (qbv _ _) (Nat.pow_le_pow_right (by decide) h)
structure CurB (c:Cur):Prop where
  x:0<=c.x/\c.x<=1000
  y:0<=c.y/\c.y<=1000
  s:qB c.sty=true
structure ParB (p:PS):Prop where
  st:0<=p.state/\p.state<=1000
  wi:0<=p.within/\p.within<=1000
  u:0<=p.utf.n/\p.utf.n<=3
  ub:qaA p.utf.pend
  m:p.marks.size<=1000
  n:p.params.length<=1000
  b:∀x∈p.params,0<=x/\x<=9999
  t:p.text.size<=1000
theorem qgb {u:US}(h:0<=u.n/\u.n<=3):u.pend.length=u.n.toNat:=by
 unfold US.pend;rw[List.length_take];simp only[List.length_cons,List.length_nil];omega
theorem qld {w:World}{b:Nat}{c:Value}{r:List Value}{T:TypeId}{u:US}(h:Blk w b (c::uX u.b0::uX u.b1::uX u.b2::r) T):Rd w (some ⟨b,1,none⟩) (u.pend.map (Value.int .u8)):=by
 refine Rd.blk h fun j hj=>?_;unfold US.pend at hj⊢;rw[List.length_map,List.length_take]at hj;rw[List.map_take,List.getElem?_take,if_pos (by omega),Nat.add_comm];simp only[List.length_cons,List.length_nil]at hj;obtain rfl|rfl|rfl:j=0\/j=1\/j=2:=by omega
 ·rfl
 ·rfl
 rfl
theorem qh1 (fb fo kn:Nat)(l:List Bool)(w:World)(hr:Rd w (some ⟨fb,fo,none⟩) (l.map Value.bool))(hl:l.length=kn)(hn:kn<=60):Calls Tryz.prog 56 [.slice (some ⟨fb,fo,none⟩) kn kn].toArray w fun e w'=>e= .returned (.int .u64 ((qa8 l:Nat):Int))/\Ch (fun _=>False) w w':=by
 refine yA Tryz.func56 rfl<|yx 1<|yx 1<|ys<|yx 3<|qa<|qT [3,6,7,8] (f':=[(3,.int .u64 0),(6,.slice (some ⟨fb,fo,none⟩) kn kn),(7,iX ((kn:Nat):Int)),(8,iX 0)])<|qx (σ:=Nat×Int) (fun⟨k,x⟩=>[(3,.int .u64 x),(6,.slice (some ⟨fb,fo,none⟩) kn kn),(7,iX ((kn:Nat):Int)),(8,iX ((k:Nat):Int))]) (fun⟨k,x⟩ u=>k<=kn/\x=((qah (lb l) k:Nat):Int)/\Ch (fun _=>False) w u) (fun⟨k,x⟩=>kn-k) (0,0) rfl ?_ ?_
 ·exact⟨Nat.zero_le _,rfl,Ch.refl _ _⟩
 intro p n f r d;obtain⟨k,x⟩:=p;obtain⟨hk,hx,b⟩:=f;have g:=qbv (lb l) k;have h:=zu (zm w) b iZ;have j:=Ch.rd b hr id;refine yx 1<|ys<|yc (rL ((k:Nat):Int) ((kn:Nat):Int)) (fun m=>?_) fun m=>?_
 ·refine yk<|ys<|qa<|ysr<|yp 5 [] (.i ((k:Nat):Int) (kn) (.l (o:=(fo+(((k:Nat):Int)).toNat*1)) (qpN j (k:=k) (by omega)) .z))<|ye<|yx 1<|yc (rY (lb l k)) (fun c=>?_) fun c=>?_
  ·refine q7<|yp 5 [] (.p (q:=0<=(((k:Nat):Int):Int)) (by omega) .z)<|yE (nB (nS ?_));refine q7<|yp 2 [] (.q6 (((k:Nat):Int)+1) .z)<|yE (fun a ha=>d (k+1,orF x k) _ ⟨by omega,by rw[hx,orF_eq (by omega) g,qah,c,if_pos rfl],b⟩ (by show kn-(k+1)<kn-k;omega) a (ha.kp [3,6,7,8]))
  refine qk (nB (nS ?_));refine q7<|yp 2 [] (.q6 (((k:Nat):Int)+1) .z)<|yE (fun a ha=>d (k+1,x) _ ⟨by omega,by rw[hx,qah,c];simp,b⟩ (by show kn-(k+1)<kn-k;omega) a (ha.kp [3,6,7,8]))
 refine ql (eS (qd (qb (nS ?_))));refine yx 2<|q9 (yR1 (.int .u64 x) ?_);exact⟨by rw[hx,show k=kn by omega,<-hl];rfl,Up.ch h⟩
theorem qfv {o:Option Nat}{n cap:Nat}{xs:List Int}{w:World}(hO:Own w tU8 1 o n cap (u8s xs))(c:Cur)(hc:CurB c)(hz:n+40<=1000000000):Calls Tryz.prog 57 [.slice (o.map at0) n cap,.agg #[iX c.x,iX c.y,.bool c.late,.bool c.sty.bold,.bool c.sty.under,.bool c.sty.turned,iX c.sty.fore,iX c.sty.back]].toArray w fun e w'=> ∃o' n' cap',e= .returned (.slice (o'.map at0) n' cap')/\Own w' tU8 1 o' n' cap' (u8s (xs++qe3 c))/\n'<=n+40/\App w w' o o':=by
 have a9:=qeO hc.s;have aa:=qh0 [c.late] (by simp);have ab:=hc.x;have ac:=hc.y;refine yA Tryz.func57 rfl<|ysr<|yo (yN [iX c.x,iX c.y,.bool c.late,.bool c.sty.bold,.bool c.sty.under,.bool c.sty.turned,iX c.sty.fore,iX c.sty.back] 86 fun ad I ae af J A=>?_);have f:=zv (b:=I) hO;have K:=hO.ch A iZ;have L:=(App.refl w o).step A iZ;refine yz 2<|ys<|qaG (fun b=>o=some b) [15] (by kernel_rfl) (fun ag ah t=>?_);have B:=K.ch t iZ;have M:=L.step t iZ;have g:=J.ch t id;refine ydC [0,1,2,3,4,5,6,7,8,13,14] [3,6] (fun u hu=>(.l (qg hu (g.c 0) (fun h=>f _ h rfl)) (.p (q:=InR .u64 c.x) (qam (by omega) (by omega)) (.l (qg hu (g.c 1) (fun h=>f _ h rfl)) (.p (q:=InR .u64 c.y) (qam (by omega) (by omega)) (.l (qg hu (g.c 2) (fun h=>f _ h rfl)) (.a (qan hu (g.cs 3 5) (fun h=>f _ h rfl)) .z)))))))<|yH 9 (yB [.bool c.late] 4 1 fun ai C aj ak D k=>?_);have E:=zv (b:=C) B;have N:=B.ch k iZ;have O:=M.step k iZ;have P:=g.ch k id;refine qz k eZ<|yH 10 (yQ (qh1 C 0 1 [c.late] _ (Rd.all (cs:=[c.late].map Value.bool) D) rfl (by decide)) fun al i=>?_);have F:=N.ch i iZ;have Q:=O.step i iZ;have R:=P.ch i id;have S:=D.ch i id;refine qz i eZ<|yH 11 (yB [.int .u64 c.x,.int .u64 c.y,.int .u64 ((qa8 [c.late]:Nat):Int)] 110 3 fun am T an ao m j=>?_);have v:=zv (b:=T) F;have U:=F.ch j iZ;have V:=Q.step j iZ;have G:=R.ch j id
 have H:=S.ch j id;refine qz j eZ<|yH 12 (yC (qcB 3 [c.x,c.y,((qa8 [c.late]:Nat):Int)] U (Rd.all m) (bC (bC (bC bN))) m.lt v) ?_);rintro _ ap ⟨aq,ar,au,rfl,W,av,d⟩;refine⟨_,rfl,?_⟩;have X:=d.apart G.lt f;have Y:=d.apart H.lt E;have Z:=d.apart m.lt v;have a0:=V.trans d;have a1:=G.ch d.ch (fun h=>f _ h rfl);have a2:=H.ch d.ch (fun h=>E _ h rfl);have a3:=m.ch d.ch (fun h=>v _ h rfl);refine qz d.ch iZ<|yK 15 (yC (qdx W c.sty hc.s (by omega)) ?_);rintro _ aw ⟨a4,a5,a6,rfl,a7,ax,r⟩;refine⟨_,rfl,?_⟩;have ay:=r.apart a1.lt X;have az:=r.apart a2.lt Y;have aA:=r.apart a3.lt Z;have a8:=a0.trans r;refine q8<|yd [16] [] .z<|yDe (nS ?_);refine q9 (yR1 (.slice (a4.map at0) a5 a6) ?_);exact⟨_,_,_,rfl,by have h:=a7;unfold qe3;simp only[qbD,qch,List.append_assoc,List.append_nil,Int.toNat_natCast]at h⊢;exact h,by omega,a8⟩
theorem qnr {o:Option Nat}{n cap:Nat}{xs:List Int}{w:World}(hO:Own w tU8 1 o n cap (u8s xs))(p:PS)(hp:ParB p)(pa:Option Addr)(pn pc:Nat)(hq:Rd w pa (p.params.map (Value.int .i64)))(hql:p.params.length=pn)(hqz:pn=0\/ ∃b f,pa=some ⟨b,f,none⟩)(hpne:∀x,o=some x-> ∀b f,pa=some ⟨b,f,none⟩-> ¬x=b)(hz:n+20000<=1000000000):Calls Tryz.prog 59 [.slice (o.map at0) n cap,.agg (p.vals (.slice pa pn pc)).toArray].toArray w fun e w'=> ∃o' n' cap',e= .returned (.slice (o'.map at0) n' cap')/\Own w' tU8 1 o' n' cap' (u8s (xs++qcf p))/\n'<=n+20000/\App w w' o o':=by
 have cr:=hp.st;have cs:=hp.wi;have ct:=hp.u;have cu:=hp.m;have cv:=hp.n;have cw:=hp.t;have cx:=qgb hp.u;have cy:=qbn p.utf.pend;refine yA Tryz.func59 rfl<|ysr<|yo (yN [iX p.state,uX p.utf.b0,uX p.utf.b1,uX p.utf.b2,iX p.utf.n,.string p.marks,.slice pa pn pc,.string p.text,iX p.within] 94 fun wb bx cz cA aK af=>?_);have d:=zv (b:=bx) hO;have aL:=hO.ch af iZ;have aM:=(App.refl w o).step af iZ;refine yz 2<|qdN (σ:=Option Nat×Nat×Nat) (fun⟨v,J,N⟩=>[(0,.slice (v.map at0) J N),(3,pX bx)]) (fun⟨v,J,N⟩ u=>Own u tU8 1 v J N (u8s ((xs++qad [p.state,p.within])++qbp (qf p.utf.pend)))/\App w u o v/\J<=n+100/\Blk u bx [iX p.state,uX p.utf.b0,uX p.utf.b1,uX p.utf.b2,iX p.utf.n,.string p.marks,.slice pa pn pc,.string p.text,iX p.within] 94/\ ∀b,v=some b-> ¬b=bx) (fun cB a2=>?_) (fun gs u18 aN=>?_)
 ·refine qaG (fun b=>o=some b) [16] (by kernel_rfl) (fun aO cC a3=>?_);have O:=aL.ch a3 iZ;have ag:=aM.step a3 iZ;have A:=aK.ch a3 id;refine ydC [0,1,2,3,4,5,6,9,10,11,12,13,14] [3,6] (fun u hu=>(.l (qg hu (A.c 0) (fun h=>d _ h rfl)) (.p (q:=InR .u64 p.state) (qam (by omega) (by omega)) (.l (qg hu (A.c 8) (fun h=>d _ h rfl)) (.p (q:=InR .u64 p.within) (qam (by omega) (by omega)) (.l (qg hu (A.c 4) (fun h=>d _ h rfl)) (.j p.utf.n (3) .z)))))))<|qa4 7 15 (by kernel_rfl) (by decide) ?_ ?_
  ·refine qF 7 _ (by kernel_rfl) rfl (yB [.int .u64 p.state,.int .u64 p.within] 110 2 fun aP aQ cD cE g P=>?_);have B:=zv (b:=aQ) O;have ah:=O.ch P iZ;have ai:=ag.step P iZ;have K:=A.ch P id;refine qz P eZ<|qa4 8 15 (by kernel_rfl) (by decide) ?_ ?_
   ·refine qF 8 _ (by kernel_rfl) rfl (yC (qcB 2 [p.state,p.within] ah (Rd.all g) (bC (bC bN)) g.lt B) ?_);rintro _ aR ⟨cF,cG,cH,rfl,aS,cI,C⟩;refine⟨_,rfl,?_⟩;have aj:=C.apart K.lt d;have aT:=C.apart g.lt B;have aU:=ai.trans C;have a4:=K.ch C.ch (fun h=>d _ h rfl);have aV:=g.ch C.ch (fun h=>B _ h rfl);refine qz C.ch iZ<|yH 15 (qp (some ⟨bx,1,none⟩) (p.utf.n:Int).toNat 3 p.utf.pend (some 22) (by kernel_rfl) (qld a4) (qgb hp.u) ?_);refine qz (zr aR) eZ<|yK 16 (yC (qaP aS (qf p.utf.pend) (by omega)) ?_);rintro _ cJ ⟨aW,aX,aY,rfl,aZ,cK,Q⟩;refine⟨_,rfl,?_⟩;have b3:=Q.apart a4.lt aj;have cL:=Q.apart aV.lt aT;have b4:=aU.trans Q;have b5:=a4.ch Q.ch (fun h=>aj _ h rfl);refine q8<|yd [17] [] .z<|yDe (fun a ha=>a2 (aW,aX,aY) _ ⟨aZ,b4,by omega,b5,b3⟩ a (ha.kp [0,3]))
   refine qF 15 _ (by kernel_rfl) rfl (qp (some ⟨bx,1,none⟩) (p.utf.n:Int).toNat 3 p.utf.pend (some 22) (by kernel_rfl) (qld K) (qgb hp.u) ?_);refine qz (zr aP) eZ<|yH 8 (yC (qcB 2 [p.state,p.within] ah (Rd.all g) (bC (bC bN)) g.lt B) ?_);rintro _ cM ⟨cN,cO,cP,rfl,b6,cQ,D⟩;refine⟨_,rfl,?_⟩;have ak:=D.apart K.lt d;have b7:=D.apart g.lt B;have b8:=ai.trans D;have al:=K.ch D.ch (fun h=>d _ h rfl);have b9:=g.ch D.ch (fun h=>B _ h rfl);refine qz D.ch iZ<|yK 16 (yC (qaP b6 (qf p.utf.pend) (by omega)) ?_);rintro _ cR ⟨ba,bb,bc,rfl,bd,cS,R⟩;refine⟨_,rfl,?_⟩;have bf:=R.apart al.lt ak;have cT:=R.apart b9.lt b7;have bg:=b8.trans R;have bh:=al.ch R.ch (fun h=>ak _ h rfl);refine q8<|yd [17] [] .z<|yDe (fun a ha=>a2 (ba,bb,bc) _ ⟨bd,bg,by omega,bh,bf⟩ a (ha.kp [0,3]))
  refine qF 15 _ (by kernel_rfl) rfl (qp (some ⟨bx,1,none⟩) (p.utf.n:Int).toNat 3 p.utf.pend (some 22) (by kernel_rfl) (qld A) (qgb hp.u) ?_);refine qz (zr aO) eZ<|yH 7 (yB [.int .u64 p.state,.int .u64 p.within] 110 2 fun cU bi cV cW S T=>?_);have a5:=zv (b:=bi) O;have bj:=O.ch T iZ;have bk:=ag.step T iZ;have am:=A.ch T id;refine qz T eZ<|yH 8 (yC (qcB 2 [p.state,p.within] bj (Rd.all S) (bC (bC bN)) S.lt a5) ?_);rintro _ cX ⟨cY,cZ,d0,rfl,bl,d1,E⟩;refine⟨_,rfl,?_⟩;have an:=E.apart am.lt d;have bm:=E.apart S.lt a5;have bn:=bk.trans E;have ao:=am.ch E.ch (fun h=>d _ h rfl);have bo:=S.ch E.ch (fun h=>a5 _ h rfl);refine qz E.ch iZ<|yK 16 (yC (qaP bl (qf p.utf.pend) (by omega)) ?_);rintro _ d2 ⟨bp,bq,br,rfl,bs,d3,U⟩;refine⟨_,rfl,?_⟩;have bt:=U.apart ao.lt an;have d4:=U.apart bo.lt bm;have bu:=bn.trans U;have bv:=ao.ch U.ch (fun h=>an _ h rfl);refine q8<|yd [17] [] .z<|yDe (fun a ha=>a2 (bp,bq,br) _ ⟨bs,bu,by omega,bv,bt⟩ a (ha.kp [0,3]))
 obtain⟨v,J,N⟩:=gs;obtain⟨bw,bz,d5,bA,F⟩:=aN;refine qdN (σ:=Option Nat×Nat×Nat) (fun⟨r,s,G⟩=>[(0,.slice (r.map at0) s G),(3,pX bx)]) (fun⟨r,s,G⟩ u=>Own u tU8 1 r s G (u8s ((((xs++qad [p.state,p.within])++qbp (qf p.utf.pend))++qbp p.marks)++qad [((pn:Nat):Int)]))/\App w u o r/\s<=n+5000/\Blk u bx [iX p.state,uX p.utf.b0,uX p.utf.b1,uX p.utf.b2,iX p.utf.n,.string p.marks,.slice pa pn pc,.string p.text,iX p.within] 94/\ ∀b,r=some b-> ¬b=bx) (fun d6 ap=>?_) (fun gs u120 bB=>?_)
 ·refine qaG (fun b=>v=some b) [9] (by kernel_rfl) (fun d7 d8 a6=>?_);have a7:=bw.ch a6 iZ;have aq:=bz.step a6 iZ;have L:=bA.ch a6 id;refine ydC [0,1,2,4,5,6,7] [7] (fun u hu=>(.l (qg hu (L.c 5) (fun h=>F _ h rfl)) (.l (qg hu (L.c 6) (fun h=>F _ h rfl)) (.p (q:=InR .u64 ((pn:Nat):Int)) (qam (by omega) (by omega)) .z))))<|qa4 3 8 (by kernel_rfl) (by decide) ?_ ?_
  ·refine qF 3 _ (by kernel_rfl) rfl (yC (qaP a7 p.marks (by omega)) ?_);rintro _ d9 ⟨da,db,dc,rfl,ar,dd,V⟩;refine⟨_,rfl,?_⟩;have au:=V.apart L.lt F;have bD:=aq.trans V;have bE:=L.ch V.ch (fun h=>F _ h rfl);refine qz V.ch iZ<|yH 8 (yB [.int .u64 ((pn:Nat):Int)] 110 1 fun de bF df dg a8 W=>?_);have av:=zv (b:=bF) ar;have aw:=bE.ch W id;have bG:=ar.ch W iZ;have bH:=bD.step W iZ;refine qz W eZ<|yK 9 (yC (qcB 1 [((pn:Nat):Int)] bG (Rd.all a8) (bC bN) a8.lt av) ?_);rintro _ dh ⟨bI,bJ,bK,rfl,bL,di,X⟩;refine⟨_,rfl,?_⟩;have bM:=X.apart aw.lt au;have dj:=X.apart a8.lt av;have bO:=bH.trans X;have bP:=aw.ch X.ch (fun h=>au _ h rfl);refine q8<|yd [10] [] .z<|yDe (fun a ha=>ap (bI,bJ,bK) _ ⟨bL,bO,by omega,bP,bM⟩ a (ha.kp [0,3]))
  refine qF 8 _ (by kernel_rfl) rfl (yB [.int .u64 ((pn:Nat):Int)] 110 1 fun dk bQ dl dm ax Y=>?_);have ay:=zv (b:=bQ) a7;have bR:=a7.ch Y iZ;have bS:=aq.step Y iZ;have az:=L.ch Y id;refine qz Y eZ<|yH 3 (yC (qaP bR p.marks (by omega)) ?_);rintro _ dn ⟨dp,dq,dr,rfl,bT,ds,H⟩;refine⟨_,rfl,?_⟩;have aA:=H.apart az.lt F;have aB:=H.apart ax.lt ay;have bU:=bS.trans H;have aC:=az.ch H.ch (fun h=>F _ h rfl);have a9:=ax.ch H.ch (fun h=>ay _ h rfl);refine qz H.ch iZ<|yK 9 (yC (qcB 1 [((pn:Nat):Int)] bT (Rd.all a9) (bC bN) a9.lt aB) ?_);rintro _ dt ⟨bV,bW,bX,rfl,bY,du,Z⟩;refine⟨_,rfl,?_⟩;have bZ:=Z.apart aC.lt aA;have dv:=Z.apart a9.lt aB;have c0:=bU.trans Z;have c2:=aC.ch Z.ch (fun h=>aA _ h rfl);refine q8<|yd [10] [] .z<|yDe (fun a ha=>ap (bV,bW,bX) _ ⟨bY,c0,by omega,c2,bZ⟩ a (ha.kp [0,3]))
 obtain⟨r,s,G⟩:=gs;obtain⟨c3,c4,dw,aD,c5⟩:=bB;refine ys<|ysr<|yp 4 [] (.l (aD.c 6) .z)<|ye<|qa<|qT [0,3,35,36,37] (f':=[(0,.slice (r.map at0) s G),(3,pX bx),(35,.slice pa pn pc),(36,iX ((pn:Nat):Int)),(37,iX 0)])<|qx (σ:=Nat×Option Nat×Nat×Nat) (fun⟨k,y,I,M⟩=>[(0,.slice (y.map at0) I M),(3,pX bx),(35,.slice pa pn pc),(36,iX ((pn:Nat):Int)),(37,iX ((k:Nat):Int))]) (fun⟨k,y,I,M⟩ u=>k<=pn/\Own u tU8 1 y I M (u8s (((((xs++qad [p.state,p.within])++qbp (qf p.utf.pend))++qbp p.marks)++qad [((pn:Nat):Int)])++(p.params.take k).flatMap (fun x=>qS x.toNat)))/\App w u o y/\I<=s+10*k/\Blk u bx [iX p.state,uX p.utf.b0,uX p.utf.b1,uX p.utf.b2,iX p.utf.n,.string p.marks,.slice pa pn pc,.string p.text,iX p.within] 94/\ ∀b,y=some b-> ¬b=bx) (fun⟨k,y,I,M⟩=>pn-k) (0,r,s,G) rfl ?_ ?_
 ·exact⟨Nat.zero_le _,by rw[List.take_zero];exact(by rw[List.flatMap_nil,List.append_nil];exact c3),c4,Nat.le_refl _,aD,c5⟩
 intro q dx c6 dy c9;obtain⟨k,y,I,M⟩:=q;obtain⟨hk,a0,aa,dz,ab,ac⟩:=c6;refine yx 1<|ys<|yc (rL ((k:Nat):Int) ((pn:Nat):Int)) (fun ca=>?_) fun ca=>?_
 ·obtain⟨pb,po,rfl⟩:=hqz.resolve_left (by omega);have dA:=hp.b _ (qd2 (l:=p.params) (k:=k) (by omega));refine yk<|ys<|qa<|ysr<|yp 3 [] (.i ((k:Nat):Int) (pn) (.l (o:=(po+(((k:Nat):Int)).toNat*1)) (qgP (Ch.rd aa.ch hq (fun h=>hpne _ h _ _ rfl rfl)) (by omega)) .z))<|ye<|q7<|yp 3 [2] (.p (q:=InR .u64 (p.params.getD k 0)) (qam (by omega) (by omega)) .z)<|yo (yB [.int .u64 (p.params.getD k 0)] 110 1 fun dB cb dC dD ad ae=>?_);have aE:=zv (b:=cb) a0;have cc:=a0.ch ae iZ;have cd:=aa.step ae iZ;have aF:=ab.ch ae id;refine yo (yC (qcB 1 [(p.params.getD k 0)] cc (Rd.all ad) (bC bN) ad.lt aE) ?_);rintro _ ce ⟨aG,aH,aI,rfl,cf,dE,a1⟩;refine⟨_,rfl,?_⟩;have cg:=a1.apart aF.lt ac;have dF:=a1.apart ad.lt aE;have ci:=cd.trans a1;have cj:=aF.ch a1.ch (fun h=>ac _ h rfl);refine yq 6<|yE (nB (nS ?_));refine q7<|yp 2 [] (.q6 (((k:Nat):Int)+1) .z) ?_;have ck:Own ce tU8 1 aG aH aI (u8s (((((xs++qad [p.state,p.within])++qbp (qf p.utf.pend))++qbp p.marks)++qad [((pn:Nat):Int)])++(p.params.take (k+1)).flatMap (fun x=>qS x.toNat))):=by
   have h:=cf;rw[qpi (by omega)];simp only[qbD,qch,List.flatMap_append,List.flatMap_cons,List.flatMap_nil,List.append_assoc,List.append_nil]at h⊢;exact h
  refine yE (fun a ha=>c9 (k+1,aG,aH,aI) _ ⟨by omega,ck,ci,by omega,cj,cg⟩ (by show pn-(k+1)<pn-k;omega) a (ha.kp [0,3,35,36,37]))
 have cl:k=p.params.length:=by omega
 rw[cl,List.take_length]at a0;refine ql (eS (qd (qb (nS ?_))));refine ysr<|yp 3 [] (.l (ab.c 7) .z)<|yo (yC (qaP a0 p.text (by omega)) ?_);rintro _ dG ⟨cm,cn,co,rfl,cp,dH,aJ⟩;refine⟨_,rfl,?_⟩;have dI:=aJ.apart ab.lt ac;have cq:=aa.trans aJ;refine yz 5<|q9 (yR1 (.slice (cm.map at0) cn co) ?_);exact⟨_,_,_,rfl,by have h:=cp;unfold qcf;simp only[qbD,qch,List.append_assoc,List.append_nil,Int.toNat_natCast]at h⊢;rw[hql];exact h,by omega,cq⟩
structure EncOk (T:TS):Prop where
  w:0<=T.grid.w/\T.grid.w<=1000
  h:0<=T.grid.h/\T.grid.h<=1000
  t:(0<=T.top/\T.top<=1000)/\0<=T.bot/\T.bot<=1000
  c:CurB T.cursor
  s:CurB T.saved
  a:CurB T.away
  g:T.grid.lines.length<=60/\ ∀l∈T.grid.lines,l.length<=60/\ ∀c∈l,cOk c
  o:T.other.lines.length<=60/\ ∀l∈T.other.lines,l.length<=60/\ ∀c∈l,cOk c
  k:T.back.length<=60/\ ∀l∈T.back,l.length<=60/\ ∀c∈l,cOk c
  ti:T.title.size<=1000
  r:T.reply.size<=1000
  p:ParB T.parser
theorem CurOk.b {W H:Int}{c:Cur}(h:CurOk W H c)(hW:W<=60)(hH:H<=60):CurB c:=⟨⟨h.x.1,by have:=h.x.2;omega⟩,⟨h.y.1,by have:=h.y.2;omega⟩,h.s⟩
theorem DecOk.enc {T:TS}(h:DecOk T):EncOk T:=by
 have hw:=h.w;have hh:=h.h;have ht:=h.t;refine⟨by omega,by omega,by omega,h.c.b hw.2 hh.2,h.s.b hw.2 hh.2,h.a.b hw.2 hh.2,⟨by rw[h.g.1];omega,fun l hl=>⟨by have:=(h.g.2 l hl).1;omega,(h.g.2 l hl).2.2⟩⟩,⟨by rw[h.g2.1];omega,fun l hl=>⟨by have:=(h.g2.2 l hl).1;omega,(h.g2.2 l hl).2.2⟩⟩,⟨by have:=h.k.1;omega,fun l hl=>⟨(h.k.2 l hl).2.1,(h.k.2 l hl).2.2.2⟩⟩,by have:=h.ti;omega,by have:=h.r;omega,?_⟩;have hp:=h.p;exact⟨⟨hp.st.1,by have:=hp.st.2;omega⟩,⟨hp.wi.1,by have:=hp.wi.2;omega⟩,hp.u.n,hp.u.pend,by have:=hp.m;omega,by have:=hp.n;omega,hp.b,by have:=hp.t;omega⟩
theorem App.new {w w':World}{o':Option Nat}(h:App w w' none o'):∀b,o'=some b->w.heap.size<=b:=fun b e=>by
  rcases h.ne with rfl|⟨g,rfl,hg⟩
  · cases e
  · cases e;exact hg
def qml (f:Nat->Bool):List Bool:=(List.range 60).map f
theorem tabL_v (f:Nat->Bool):(qml f).map Value.bool=qhg f:=by
 unfold qml qhg;rw[List.map_map];rfl
theorem tabL_f (f:Nat->Bool):qa8 (qml f)=qah f 60:=by
 have hl:(qml f).length=60:=by simp[qml]
 unfold qa8;rw[hl];refine qcs fun i hi=>?_;unfold lb qml;simp[List.getD,hi]
theorem tabs_rd {w:World}{t g o:Nat}{bk ps:Value}{T:TS}(h:Blk w t (T.vals g o bk ps) qap):Rd w (some ⟨t,28,none⟩) ((qml T.tabs).map Value.bool):=by
 rw[tabL_v];refine⟨(fun e=>by cases e),fun ad e j u hj=>?_⟩;cases e;have hl:=(List.getElem?_eq_some_iff.1 hj).1;have a:j<60:=by simpa[qhg]using hl
 have hu:u= .bool (T.tabs j):=by
  unfold qhg at hj;rw[List.getElem?_map,List.getElem?_range a]at hj;exact(zi hj).symm
 have:=qlC h ((j:Nat):Int) (by omega) (by omega);rw[Int.toNat_natCast,Nat.mul_one]at this;rw[qb7,hu];exact this
theorem qcU {rows:List Row}{k:Nat}{q:Row}(h:rows[k]? =some q):(rows.map Row.l).take (k+1)=(rows.map Row.l).take k++[q.l]:=by
 have hk:k<(rows.map Row.l).length:=by rw[List.length_map];exact(List.getElem?_eq_some_iff.1 h).1
 rw[List.take_succ_eq_append_getElem hk];congr 2;have:(rows.map Row.l)[k]? =some q.l:=by rw[List.getElem?_map,h];rfl
 exact(List.getElem?_eq_some_iff.1 this).2
theorem qh2 {rows:List Row}{k:Nat}(h:k<rows.length):∃q,rows[k]? =some q/\q∈rows:=⟨_,List.getElem?_eq_getElem h,List.getElem_mem h⟩
theorem qi1 {w:World}{t:Nat}{T:TS}{F:Nat->Prop}(hA0:TermAt w t T F)(he:EncOk T):Calls Tryz.prog 27 [pX t].toArray w fun e w'=>
 ∃o n cap,e= .returned (.slice (o.map at0) n cap)/\Own w' tU8 1 o n cap (u8s (qN T))/\n<=1000000/\(∀b,o=some b->w.heap.size<=b)/\Ch (fun _=>False) w w':=by
 obtain⟨g,q,ba,bn,bc,pa,pn,pc,F1,F2,FB,FP,hI⟩:=hA0;obtain⟨r1,bg,v,D⟩:=hI.g1;obtain⟨r2,bi,A,E⟩:=hI.g2;obtain⟨ag,G,a4⟩:=hI.bk;have eM:bn<=60:=by have h1:=G.len;have W:=he.k.1;rw[<-a4,List.length_map]at W;omega
 have eN:=he.w;have eO:=he.h;have eP:=he.t;have eQ:=he.ti;have eR:=he.r;have eT:=qh0 [T.wrap,T.origin,T.insert,T.hidden,T.alt,T.draw0,T.draw1,T.shift] (by simp);have eU:=qh0 (qml T.tabs) (by simp[qml]);refine yA Tryz.func27 rfl<|yx 1<|ys<|yD [26,27] fun eV eW bj=>?_;have bl:=(show Own w tU8 1 none 0 0 (u8s [])from Own.nil w tU8 1).ch bj iZ;have M:=(App.refl w none).step bj iZ;refine yd (uL 0 26) [7,15,20,25] (.l (qg (qK M.ch) (hI.blk.c 0) id) (.l (qg (qK M.ch) (D.head.c 0) id) (.p (q:=InR .u64 T.grid.w) (qam (by omega) (by omega)) (.l (qg (qK M.ch) (hI.blk.c 0) id) (.l (qg (qK M.ch) (D.head.c 1) id) (.p (q:=InR .u64 T.grid.h) (qam (by omega) (by omega)) (.l (qg (qK M.ch) (hI.blk.c 26) id) (.p (q:=InR .u64 T.top) (qam (by omega) (by omega)) (.l (qg (qK M.ch) (hI.blk.c 27) id) (.p (q:=InR .u64 T.bot) (qam (by omega) (by omega)) .z))))))))))<|yK 26 (yB [.int .u64 T.grid.w,.int .u64 T.grid.h,.int .u64 T.top,.int .u64 T.bot] 110 4 fun eX aI cA eY ah bm=>?_);have aJ:=zv (b:=aI) bl;have eZ:w.heap.size<=aI:=by rw[cA];exact M.ch.size
 have cB:=bl.ch bm iZ;have cC:=M.step bm iZ;refine q8<|yK 27 (yC (qcB 4 [T.grid.w,T.grid.h,T.top,T.bot] cB (Rd.all ah) (bC (bC (bC (bC bN)))) ah.lt aJ) ?_);rintro _ fa ⟨fb,fc,fd,rfl,cD,fe,aK⟩;refine⟨_,rfl,?_⟩;have bp:=aK.apart ah.lt aJ;have cE:=cC.trans aK;have cF:=ah.ch aK.ch (fun h=>aJ _ h rfl);refine q8<|yd [28] [] .z<|yDe (nS ?_);refine ys<|yD [35,36,41,42,43] fun ff fg aL=>?_;have cG:=cF.ch aL id;have bq:=cD.ch aL iZ;have H:=cE.step aL iZ;refine yd [0,1,2,3,4,5,6,7,8,9,10,11,12,13,14,15,16,17,18,19,20,21,22,23,24,25,26,27,28,29,30,31,32,33,34,37,38,39,40] [] (.l (qg (qK H.ch) (hI.blk.c 88) id) (.l (qg (qK H.ch) (hI.blk.c 89) id) (.l (qg (qK H.ch) (hI.blk.c 90) id) (.l (qg (qK H.ch) (hI.blk.c 91) id) (.l (qg (qK H.ch) (hI.blk.c 95) id) (.i 0 (2) (.l (qg (qK H.ch) (hI.blk.c 92) id) (.i 1 (2) (.l (qg (qK H.ch) (hI.blk.c 93) id) (.l (qg (qK H.ch) (hI.blk.c 94) id) .z))))))))))<|yK 35 (yB [.bool T.wrap,.bool T.origin,.bool T.insert,.bool T.hidden,.bool T.alt,.bool T.draw0,.bool T.draw1,.bool T.shift] 4 8 fun fh ai cH fi br aM=>?_);have bs:=zv (b:=ai) bq;have fj:w.heap.size<=ai:=by rw[cH];exact H.ch.size
 have cI:=cG.ch aM id;have cJ:=bq.ch aM iZ;have cK:=H.step aM iZ;refine q8<|yK 36 (yQ (qh1 ai 0 8 [T.wrap,T.origin,T.insert,T.hidden,T.alt,T.draw0,T.draw1,T.shift] _ (Rd.all (cs:=[T.wrap,T.origin,T.insert,T.hidden,T.alt,T.draw0,T.draw1,T.shift].map Value.bool) br) rfl (by decide)) fun fk aj=>?_);have cL:=cI.ch aj id;have cM:=cJ.ch aj iZ;have bt:=cK.step aj iZ;have cN:=br.ch aj id;refine q8<|yK 41 (yQ (qh1 t 28 60 (qml T.tabs) _ (Ch.rd (qK bt.ch) (tabs_rd hI.blk) id) (by simp[qml]) (by decide)) fun fl ak=>?_);have cO:=cL.ch ak id;have bu:=cM.ch ak iZ;have bv:=bt.step ak iZ;have cP:=cN.ch ak id;refine q8<|yK 42 (yB [.int .u64 ((qa8 [T.wrap,T.origin,T.insert,T.hidden,T.alt,T.draw0,T.draw1,T.shift]:Nat):Int),.int .u64 ((qa8 (qml T.tabs):Nat):Int)] 110 2 fun fm aN cQ fn al am=>?_);have aO:=zv (b:=aN) bu;have fo:w.heap.size<=aN:=by rw[cQ];exact bv.ch.size
 have bw:=cO.ch am id;have cR:=bu.ch am iZ;have cS:=bv.step am iZ;have bx:=cP.ch am id;refine q8<|yK 43 (yC (qcB 2 [((qa8 [T.wrap,T.origin,T.insert,T.hidden,T.alt,T.draw0,T.draw1,T.shift]:Nat):Int),((qa8 (qml T.tabs):Nat):Int)] cR (Rd.all al) (bC (bC bN)) al.lt aO) ?_);rintro _ fp ⟨fq,fr,fs,rfl,cT,ft,Q⟩;refine⟨_,rfl,?_⟩;have cU:=Q.apart bw.lt bp;have cV:=Q.apart bx.lt bs;have cW:=Q.apart al.lt aO;have cX:=cS.trans Q;have cY:=bw.ch Q.ch (fun h=>bp _ h rfl);have cZ:=bx.ch Q.ch (fun h=>bs _ h rfl);have d0:=al.ch Q.ch (fun h=>aO _ h rfl);refine q8<|yd [44] [] .z<|yDe (nS ?_);refine ys<|ys<|yD [12] fun fu fv a5=>?_;have d1:=cY.ch a5 id;have d2:=cZ.ch a5 id;have d3:=d0.ch a5 id;have bA:=cT.ch a5 iZ;have a6:=cX.step a5 iZ;refine yd [0,1,2,3,4,5,6,7,8,9,10,11,14] [] (.a (qan (qK a6.ch) (hI.blk.cs 2 8) id) (.a (qan (qK a6.ch) (hI.blk.cs 10 8) id) (.a (qan (qK a6.ch) (hI.blk.cs 18 8) id) .z)))<|yK 12 (yB [iX T.cursor.x,iX T.cursor.y,.bool T.cursor.late,.bool T.cursor.sty.bold,.bool T.cursor.sty.under,.bool T.cursor.sty.turned,iX T.cursor.sty.fore,iX T.cursor.sty.back,iX T.saved.x,iX T.saved.y,.bool T.saved.late,.bool T.saved.sty.bold,.bool T.saved.sty.under,.bool T.saved.sty.turned,iX T.saved.sty.fore,iX T.saved.sty.back,iX T.away.x,iX T.away.y,.bool T.away.late,.bool T.away.sty.bold,.bool T.away.sty.under,.bool T.away.sty.turned,iX T.away.sty.fore,iX T.away.sty.back] 86 3 fun fw a7 d4 fx aP a8=>?_)
 have bB:=zv (b:=a7) bA;have fy:w.heap.size<=a7:=by rw[d4];exact a6.ch.size
 have bD:=d1.ch a8 id;have bE:=d2.ch a8 id;have bF:=d3.ch a8 id;have bG:=bA.ch a8 iZ;have bH:=a6.step a8 iZ;refine q8<|yd [13] [] .z<|yDe (nS ?_);refine qa<|yU 4 (yU1 ?_);refine yx 1<|ys<|yct<|yk<|ys<|qa<|ysr<|yp 2 [] (.i 0 (3) (.a (aP.cs 0 8) .z))<|yo (yN [iX 0,iX 0,.bool false,.bool false,.bool false,.bool false,iX 0,iX 0] 86 fun fz N d5 fA d6 X=>?_);have bI:=zv (b:=N) bG;have d7:w.heap.size<=N:=by rw[d5];exact bH.ch.size
 have d8:=bD.ch X id;have d9:=bE.ch X id;have da:=bF.ch X id;have db:=bG.ch X iZ;have dc:=bH.step X iZ;have dd:=aP.ch X id;refine yo (yT [iX T.cursor.x,iX T.cursor.y,.bool T.cursor.late,.bool T.cursor.sty.bold,.bool T.cursor.sty.under,.bool T.cursor.sty.turned,iX T.cursor.sty.fore,iX T.cursor.sty.back] d6 fun fB bJ Y=>?_);have de:=d8.ch Y (fun(h:aI=N)=>by have:=bD.lt;omega);have df:=d9.ch Y (fun(h:ai=N)=>by have:=bE.lt;omega);have dg:=da.ch Y (fun(h:aN=N)=>by have:=bF.lt;omega);have dh:=db.ch Y (fun b e (h:b=N)=>bI b e h);have di:=dc.step Y (fun i hi (h:i=N)=>by have:=d7;omega);have bK:=dd.ch Y (fun(h:a7=N)=>by have:=aP.lt;omega);refine ye<|q7<|yp 2 [] (.a (bJ.cs 0 8) .z)<|yo (yC (qfv dh T.cursor he.c (by omega)) ?_);rintro _ fC ⟨fD,fE,fF,rfl,bL,fG,R⟩;refine⟨_,rfl,?_⟩;have fH:=R.apart de.lt cU;have fI:=R.apart df.lt cV;have fJ:=R.apart dg.lt cW;have bM:=R.apart bK.lt bB;have fK:=R.apart bJ.lt bI;have bO:=di.trans R;have aQ:=bK.ch R.ch (fun h=>bB _ h rfl);refine yq 4<|yE (nB (nS ?_));refine q7<|yp 2 [] (.q6 1 .z)<|yE (nU (yU1 ?_));refine yx 1<|ys<|yct<|yk<|ys<|qa<|ysr<|yp 2 [] (.i 1 (3) (.a (aQ.cs 8 8) .z))<|yo (yN [iX 0,iX 0,.bool false,.bool false,.bool false,.bool false,iX 0,iX 0] 86 fun fL a9 dj fM dk aR=>?_);have bP:=zv (b:=a9) bL;have dl:w.heap.size<=a9:=by rw[dj];exact bO.ch.size
 have dm:=aQ.ch aR id;have dn:=bL.ch aR iZ;have dp:=bO.step aR iZ;refine yo (yT [iX T.saved.x,iX T.saved.y,.bool T.saved.late,.bool T.saved.sty.bold,.bool T.saved.sty.under,.bool T.saved.sty.turned,iX T.saved.sty.fore,iX T.saved.sty.back] dk fun fN bQ aS=>?_);have bR:=dm.ch aS (fun(h:a7=a9)=>by have:=aQ.lt;omega);have dq:=dn.ch aS (fun b e (h:b=a9)=>bP b e h);have dr:=dp.step aS (fun i hi (h:i=a9)=>by have:=dl;omega);refine ye<|q7<|yp 2 [] (.a (bQ.cs 0 8) .z)<|yo (yC (qfv dq T.saved he.s (by omega)) ?_);rintro _ fO ⟨fP,fQ,fR,rfl,bS,fS,an⟩;refine⟨_,rfl,?_⟩;have ds:=an.apart bR.lt bM;have fT:=an.apart bQ.lt bP;have bT:=dr.trans an;have aT:=bR.ch an.ch (fun h=>bM _ h rfl);refine yq 4<|yE (nB (nS ?_));refine q7<|yp 2 [] (.q6 2 .z)<|yE (nU (yU1 ?_));refine yx 1<|ys<|yct<|yk<|ys<|qa<|ysr<|yp 2 [] (.i 2 (3) (.a (aT.cs 16 8) .z))<|yo (yN [iX 0,iX 0,.bool false,.bool false,.bool false,.bool false,iX 0,iX 0] 86 fun fU aa dt fV du aU=>?_);have bU:=zv (b:=aa) bS;have dv:w.heap.size<=aa:=by rw[dt];exact bT.ch.size
 have dw:=aT.ch aU id;have dx:=bS.ch aU iZ;have dy:=bT.step aU iZ;refine yo (yT [iX T.away.x,iX T.away.y,.bool T.away.late,.bool T.away.sty.bold,.bool T.away.sty.under,.bool T.away.sty.turned,iX T.away.sty.fore,iX T.away.sty.back] du fun fW bV aV=>?_);have dz:=dw.ch aV (fun(h:a7=aa)=>by have:=aT.lt;omega);have dA:=dx.ch aV (fun b e (h:b=aa)=>bU b e h);have dB:=dy.step aV (fun i hi (h:i=aa)=>by have:=dv;omega);refine ye<|q7<|yp 2 [] (.a (bV.cs 0 8) .z)<|yo (yC (qfv dA T.away he.a (by omega)) ?_);rintro _ fX ⟨ao,ab,ap,rfl,dC,fY,aW⟩;refine⟨_,rfl,?_⟩;have fZ:=aW.apart dz.lt ds;have g0:=aW.apart bV.lt bU;have dD:=dB.trans aW;refine yq 4<|yE (nB (nS ?_));refine q7<|yp 2 [] (.q6 3 .z)<|yE (nU (yU1 ?_));refine yx 1<|ys<|ycf<|ql (eS (qd (qb (nS ?_))));refine ys<|ys<|yD [8] fun g3 g4 bW=>?_;have bX:=dC.ch bW iZ;have aq:=dD.step bW iZ;refine yd [0,1,2,3,4,5,6,7,10] [] (.l (qg (qK aq.ch) (hI.blk.c 0) id) (.l (qg (qK aq.ch) (hI.blk.c 1) id) .z))<|yK 8 (yB [pX g,pX q] 82 2 fun dE B dF g5 bY bZ=>?_);have dG:=zv (b:=B) bX;have g6:w.heap.size<=B:=by rw[dF];exact aq.ch.size
 have dH:=bX.ch bZ iZ;have c0:=aq.step bZ iZ;refine q8<|yd [9] [] .z<|yDe (nS ?_);refine qa<|yU 3 (yU1 ?_);refine yx 1<|ys<|yct<|yk<|ys<|qa<|ysr<|yf (f':=[(0,pX t),(3,.slice (ao.map at0) ab ap),(7,pX g),(114,.slice (some ⟨B,0,none⟩) 2 2),(115,iX 2),(116,iX 0)]) 3 [] [0,3,7,114,115,116] (.i 0 (2) (.l (bY.c 0) .z))<|ye<|ysr<|yp 6 [] (.l (qg (qK c0.ch) (D.head.c 2) id) .z)<|ye<|qa ?_;obtain⟨ar,c1⟩:∃l:List Int,l=(((((([]:List Int)++qad [T.grid.w,T.grid.h,T.top,T.bot])++qad [((qa8 [T.wrap,T.origin,T.insert,T.hidden,T.alt,T.draw0,T.draw1,T.shift]:Nat):Int),((qa8 (qml T.tabs):Nat):Int)])++qe3 T.cursor)++qe3 T.saved)++qe3 T.away):=⟨_,rfl⟩
 have dI:Own dE tU8 1 ao ab ap (u8s ar):=by rw[c1];exact dH
 have dJ:=he.g.1;rw[<-D.lines,List.length_map]at dJ;refine qT [0,3,114,115,116,123,124,125] (f':=[(0,pX t),(3,.slice (ao.map at0) ab ap),(114,.slice (some ⟨B,0,none⟩) 2 2),(115,iX 2),(116,iX 0),(123,.slice (some ⟨r1,0,none⟩) v.length bg),(124,iX ((v.length:Nat):Int)),(125,iX 0)])<|qx (σ:=Nat×Option Nat×Nat×Nat) (fun⟨d,I,J,O⟩=>[(0,pX t),(3,.slice (I.map at0) J O),(114,.slice (some ⟨B,0,none⟩) 2 2),(115,iX 2),(116,iX 0),(123,.slice (some ⟨r1,0,none⟩) v.length bg),(124,iX ((v.length:Nat):Int)),(125,iX ((d:Nat):Int))]) (fun⟨d,I,J,O⟩ u=>d<=v.length/\Own u tU8 1 I J O (u8s (ar++((v.map Row.l).take d).flatMap qa2))/\App w u none I/\J<=ab+1800*d/\Blk u B [pX g,pX q] 82/\ ∀b,I=some b-> ¬b=B) (fun⟨d,I,J,O⟩=>v.length-d) (0,ao,ab,ap) rfl ?_ ?_
 ·exact⟨Nat.zero_le _,(by rw[List.take_zero,List.flatMap_nil,List.append_nil];exact dI),c0,Nat.le_refl _,bY,dG⟩
 intro p dK dL g7 dM;obtain⟨d,I,J,O⟩:=p;obtain⟨g8,aX,S,g9,au,aY⟩:=dL;refine yx 1<|ys<|yc (rL ((d:Nat):Int) ((v.length:Nat):Int)) (fun dN=>?_) fun dN=>?_
 ·obtain⟨K,c2,Z⟩:=qh2 (rows:=v) (k:=d) (by omega);obtain⟨ga,dO⟩:=he.g.2 K.l (by rw[<-D.lines];exact List.mem_map_of_mem Z);have gb:=(D.line K Z).2;refine yk<|ys<|qa<|ysr<|yp 3 [] (.i ((d:Nat):Int) (v.length) (.l (qgM (Ch.rd (qK S.ch) D.body.rd id) c2) .z))<|ye<|q7<|yq 2<|yo (yC (qe6 aX K.b K.n K.cap K.l (Ch.rd (qK S.ch) (D.line K Z).1.rd id) (Nat.lt_of_lt_of_le (D.line K Z).1.lt S.ch.size) (S.apart (D.line K Z).1.lt (fun b e=>by cases e)) (D.line K Z).2 dO (by omega)) ?_);rintro _ dP ⟨c3,c4,c5,rfl,dQ,gc,aZ⟩;refine⟨_,rfl,?_⟩;have dR:=aZ.apart au.lt aY;have dS:=S.trans aZ;have dT:=au.ch aZ.ch (fun h=>aY _ h rfl);refine yq 4<|yE (nB (nS ?_));refine q7<|yp 2 [] (.q6 (((d:Nat):Int)+1) .z) ?_;have dU:Own dP tU8 1 c3 c4 c5 (u8s (ar++((v.map Row.l).take (d+1)).flatMap qa2)):=by
   have h:=dQ;rw[qcU c2];simp only[qbD,qch,List.flatMap_append,List.flatMap_cons,List.flatMap_nil,List.append_assoc,List.append_nil,Int.toNat_natCast]at h⊢;exact h
  refine yE (fun a ha=>dM (d+1,c3,c4,c5) _ ⟨by omega,dU,dS,by omega,dT,dR⟩ (by show v.length-(d+1)<v.length-d;omega) a (ha.kp [0,3,114,115,116,123,124,125]))
 have dV:d=(v.map Row.l).length:=by rw[List.length_map];omega
 rw[dV,List.take_length,D.lines]at aX;refine ql (eS (qd (qb (nB (nS ?_)))));refine q7<|yp 2 [] (.q6 1 .z)<|yE (nU (yU1 ?_));refine yx 1<|ys<|yct<|yk<|ys<|qa<|ysr<|yp 3 [] (.i 1 (2) (.l (au.c 1) .z))<|ye<|ysr<|yp 6 [] (.l (qg (qK S.ch) (E.head.c 2) id) .z)<|ye<|qa ?_;obtain⟨av,c6⟩:∃l:List Int,l=(ar++(T.grid.lines).flatMap qa2):=⟨_,rfl⟩
 have dW:Own dK tU8 1 I J O (u8s av):=by rw[c6];exact aX
 have dX:=he.o.1;rw[<-E.lines,List.length_map]at dX;refine qT [0,3,114,115,116,123,124,125] (f':=[(0,pX t),(3,.slice (I.map at0) J O),(114,.slice (some ⟨B,0,none⟩) 2 2),(115,iX 2),(116,iX 1),(123,.slice (some ⟨r2,0,none⟩) A.length bi),(124,iX ((A.length:Nat):Int)),(125,iX 0)])<|qx (σ:=Nat×Option Nat×Nat×Nat) (fun⟨j,U,a0,ac⟩=>[(0,pX t),(3,.slice (U.map at0) a0 ac),(114,.slice (some ⟨B,0,none⟩) 2 2),(115,iX 2),(116,iX 1),(123,.slice (some ⟨r2,0,none⟩) A.length bi),(124,iX ((A.length:Nat):Int)),(125,iX ((j:Nat):Int))]) (fun⟨j,U,a0,ac⟩ u=>j<=A.length/\Own u tU8 1 U a0 ac (u8s (av++((A.map Row.l).take j).flatMap qa2))/\App w u none U/\a0<=J+1800*j/\Blk u B [pX g,pX q] 82/\ ∀b,U=some b-> ¬b=B) (fun⟨j,U,a0,ac⟩=>A.length-j) (0,I,J,O) rfl ?_ ?_
 ·exact⟨Nat.zero_le _,(by rw[List.take_zero,List.flatMap_nil,List.append_nil];exact dW),S,Nat.le_refl _,au,aY⟩
 intro p gd dY gf dZ;obtain⟨j,U,a0,ac⟩:=p;obtain⟨gg,aw,P,gh,b0,ax⟩:=dY;refine yx 1<|ys<|yc (rL ((j:Nat):Int) ((A.length:Nat):Int)) (fun e0=>?_) fun e0=>?_
 ·obtain⟨L,c7,a1⟩:=qh2 (rows:=A) (k:=j) (by omega);obtain⟨gi,e1⟩:=he.o.2 L.l (by rw[<-E.lines];exact List.mem_map_of_mem a1);have gj:=(E.line L a1).2;refine yk<|ys<|qa<|ysr<|yp 3 [] (.i ((j:Nat):Int) (A.length) (.l (qgM (Ch.rd (qK P.ch) E.body.rd id) c7) .z))<|ye<|q7<|yq 2<|yo (yC (qe6 aw L.b L.n L.cap L.l (Ch.rd (qK P.ch) (E.line L a1).1.rd id) (Nat.lt_of_lt_of_le (E.line L a1).1.lt P.ch.size) (P.apart (E.line L a1).1.lt (fun b e=>by cases e)) (E.line L a1).2 e1 (by omega)) ?_);rintro _ e2 ⟨c8,c9,ca,rfl,e3,gk,b1⟩;refine⟨_,rfl,?_⟩;have e4:=b1.apart b0.lt ax;have e5:=P.trans b1;have e6:=b0.ch b1.ch (fun h=>ax _ h rfl);refine yq 4<|yE (nB (nS ?_));refine q7<|yp 2 [] (.q6 (((j:Nat):Int)+1) .z) ?_;have e7:Own e2 tU8 1 c8 c9 ca (u8s (av++((A.map Row.l).take (j+1)).flatMap qa2)):=by
   have h:=e3;rw[qcU c7];simp only[qbD,qch,List.flatMap_append,List.flatMap_cons,List.flatMap_nil,List.append_assoc,List.append_nil,Int.toNat_natCast]at h⊢;exact h
  refine yE (fun a ha=>dZ (j+1,c8,c9,ca) _ ⟨by omega,e7,e5,by omega,e6,e4⟩ (by show A.length-(j+1)<A.length-j;omega) a (ha.kp [0,3,114,115,116,123,124,125]))
 have e8:j=(A.map Row.l).length:=by rw[List.length_map];omega
 rw[e8,List.take_length,E.lines]at aw;refine ql (eS (qd (qb (nB (nS ?_)))));refine q7<|yp 2 [] (.q6 2 .z)<|yE (nU (yU1 ?_));refine yx 1<|ys<|ycf<|ql (eS (qd (qb (nS ?_))));refine ysr<|yp 7 [6] (.l (qg (qK P.ch) (hI.blk.c 97) id) (.p (q:=InR .u64 ((bn:Nat):Int)) (qam (by omega) (by omega)) .z))<|yo (yB [.int .u64 ((bn:Nat):Int)] 110 1 fun gl cb e9 gm b2 b3=>?_);have cc:=zv (b:=cb) aw;have gn:w.heap.size<=cb:=by rw[e9];exact P.ch.size
 have ea:=aw.ch b3 iZ;have eb:=P.step b3 iZ;have cd:=b0.ch b3 id;refine yo (yC (qcB 1 [((bn:Nat):Int)] ea (Rd.all b2) (bC bN) b2.lt cc) ?_);rintro _ ec ⟨b4,ay,b5,rfl,ed,gp,az⟩;refine⟨_,rfl,?_⟩;have ee:=az.apart cd.lt ax;have gq:=az.apart b2.lt cc;have ce:=eb.trans az;have ef:=cd.ch az.ch (fun h=>ax _ h rfl);refine yz 10<|ys<|ysr<|yp 6 [] (.l (qg (qK ce.ch) (hI.blk.c 97) id) .z)<|ye<|qa ?_;obtain⟨b6,cf⟩:∃l:List Int,l=((av++(T.other.lines).flatMap qa2)++qad [((bn:Nat):Int)]):=⟨_,rfl⟩
 have eg:Own ec tU8 1 b4 ay b5 (u8s b6):=by rw[cf];exact ed
 have eh:=he.k.1;rw[<-a4,List.length_map]at eh;have gr:=G.len;refine qT [0,3,146,147,148] (f':=[(0,pX t),(3,.slice (b4.map at0) ay b5),(146,.slice ba bn bc),(147,iX ((bn:Nat):Int)),(148,iX 0)])<|qx (σ:=Nat×Option Nat×Nat×Nat) (fun⟨m,V,a2,ad⟩=>[(0,pX t),(3,.slice (V.map at0) a2 ad),(146,.slice ba bn bc),(147,iX ((bn:Nat):Int)),(148,iX ((m:Nat):Int))]) (fun⟨m,V,a2,ad⟩ u=>m<=bn/\Own u tU8 1 V a2 ad (u8s (b6++((ag.map Row.l).take m).flatMap (fun l=>qS l.length++qa2 l)))/\App w u none V/\a2<=ay+1810*m/\Blk u B [pX g,pX q] 82/\ ∀b,V=some b-> ¬b=B) (fun⟨m,V,a2,ad⟩=>bn-m) (0,b4,ay,b5) rfl ?_ ?_
 ·exact⟨Nat.zero_le _,(by rw[List.take_zero,List.flatMap_nil,List.append_nil];exact eg),ce,Nat.le_refl _,ef,ee⟩
 intro p gs ei gu ej;obtain⟨m,V,a2,ad⟩:=p;obtain⟨gv,aA,aB,gw,cg,aC⟩:=ei;refine yx 1<|ys<|yc (rL ((m:Nat):Int) ((bn:Nat):Int)) (fun ek=>?_) fun ek=>?_
 ·obtain⟨bb,bo,rfl⟩:=qpn hI.bz G (by omega);obtain⟨C,ci,a3⟩:=qh2 (rows:=ag) (k:=m) (by omega);obtain⟨gx,el⟩:=he.k.2 C.l (by rw[<-a4];exact List.mem_map_of_mem a3);have em:=(G.line C a3).2;refine yk<|ys<|qa<|ysr<|yp 3 [] (.i ((m:Nat):Int) (bn) (.l (qgM (Ch.rd (qK aB.ch) G.rd id) ci) .z))<|ye<|q7<|yp 4 [3] (.p (q:=InR .u64 ((C.n:Nat):Int)) (qam (by omega) (by omega)) .z)<|yo (yB [.int .u64 ((C.n:Nat):Int)] 110 1 fun gy cj en gz aD b7=>?_);have b8:=zv (b:=cj) aA;have gA:w.heap.size<=cj:=by rw[en];exact aB.ch.size
  have ck:=cg.ch b7 id;have eo:=aA.ch b7 iZ;have ep:=aB.step b7 iZ;refine yo (yC (qcB 1 [((C.n:Nat):Int)] eo (Rd.all aD) (bC bN) aD.lt b8) ?_);rintro _ gB ⟨gC,gD,gE,rfl,er,gF,ae⟩;refine⟨_,rfl,?_⟩;have cl:=ae.apart ck.lt aC;have es:=ae.apart aD.lt b8;have aE:=ep.trans ae;have cm:=ck.ch ae.ch (fun h=>aC _ h rfl);have et:=aD.ch ae.ch (fun h=>b8 _ h rfl);refine yq 7<|yo (yC (qe6 er C.b C.n C.cap C.l (Ch.rd (qK aE.ch) (G.line C a3).1.rd id) (Nat.lt_of_lt_of_le (G.line C a3).1.lt aE.ch.size) (aE.apart (G.line C a3).1.lt (fun b e=>by cases e)) (G.line C a3).2 el (by omega)) ?_);rintro _ eu ⟨cn,co,cp,rfl,ev,gG,aF⟩;refine⟨_,rfl,?_⟩;have ew:=aF.apart cm.lt cl;have gH:=aF.apart et.lt es;have ex:=aE.trans aF;have ey:=cm.ch aF.ch (fun h=>cl _ h rfl);refine yq 9<|yE (nB (nS ?_));refine q7<|yp 2 [] (.q6 (((m:Nat):Int)+1) .z) ?_;have ez:Own eu tU8 1 cn co cp (u8s (b6++((ag.map Row.l).take (m+1)).flatMap (fun l=>qS l.length++qa2 l))):=by
   have h:=ev;rw[qcU ci];simp only[qbD,qch,List.flatMap_append,List.flatMap_cons,List.flatMap_nil,List.append_assoc,List.append_nil,Int.toNat_natCast]at h⊢;rw[em];exact h
  refine yE (fun a ha=>ej (m+1,cn,co,cp) _ ⟨by omega,ez,ex,by omega,ey,ew⟩ (by show bn-(m+1)<bn-m;omega) a (ha.kp [0,3,146,147,148]))
 have eA:m=(ag.map Row.l).length:=by rw[List.length_map];omega
 rw[eA,List.take_length,a4]at aA;refine ql (eS (qd (qb (nS ?_))));refine ys<|qaG (fun b=>w.heap.size<=b) [15] (by kernel_rfl) (fun gI gJ b9=>?_);have cq:=cg.ch b9 id;have eB:=aA.ch b9 iZ;have af:=aB.step b9 iZ;refine ydC [0,1,2,3,4,6,7,8,9,11,12,13,14] [] (fun u hu=>(.l (qg hu (qg (qK af.ch) (hI.blk.c 96) id) (fun h=>by have:=hI.blk.lt;omega)) (.l (qg hu (qg (qK af.ch) (hI.blk.c 107) id) (fun h=>by have:=hI.blk.lt;omega)) (.a (qan hu (qan (qK af.ch) (hI.blk.cs 98 9) id) (fun h=>by have:=hI.blk.lt;omega)) .z))))<|yH 5 (yC (qaP eB T.title (by omega)) ?_);rintro _ gK ⟨gL,gM,gN,rfl,eC,gO,aG⟩;refine⟨_,rfl,?_⟩;have cr:=aG.apart cq.lt aC;have ct:=af.trans aG;have cu:=cq.ch aG.ch (fun h=>aC _ h rfl);refine qz aG.ch ((fun i _ h=>af.new i h))<|yH 10 (yC (qaP eC T.reply (by omega)) ?_);rintro _ gP ⟨gQ,gR,gS,rfl,eD,gT,aH⟩;refine⟨_,rfl,?_⟩;have eE:=aH.apart cu.lt cr;have bd:=ct.trans aH;have eF:=cu.ch aH.ch (fun h=>cr _ h rfl);refine qz aH.ch ((fun i _ h=>ct.new i h))<|yK 15 (yC (qnr eD T.parser he.p pa pn pc (hI.ps.1.ch (qK bd.ch) iZ) hI.ps.2.1 (by rcases hI.pz with⟨po,cv⟩;cases po with|none=>exact .inl (by have h:=hI.ps.1.1 (by rw[cv];rfl);have W:=hI.ps.2.1;rw[List.map_eq_nil_iff]at h;rw[h]at W;exact W.symm)|some b=>exact .inr ⟨b,0,by rw[cv];rfl⟩) (fun x hx b f hb e=>by have h1:=bd.new x hx;have W:=hI.ps.2.2.2 _ hb;have h3:=hI.lt b (hI.inF.2.2.2.2 b W);omega) (by omega)) ?_)
 rintro _ gV ⟨eG,eH,eI,rfl,eJ,gW,cw⟩;refine⟨_,rfl,?_⟩;have gX:=cw.apart eF.lt eE;have cx:=bd.trans cw;refine q8<|yd [16] [] .z<|yDe (nS ?_);refine q9 (yR1 (.slice (eG.map at0) eH eI) ?_);refine⟨_,_,_,rfl,?_,by omega,cx.new,qK cx.ch⟩;have h:=eJ;subst cf c6 c1;unfold qN;unfold qbP;rw[<-tabL_f];simp only[qbD,qch,List.append_assoc,List.append_nil,List.nil_append,Int.toNat_natCast]at h⊢;have cy:=congrArg List.length a4;rw[List.length_map,G.len]at cy;rw[<-cy];exact h
theorem qku {p:Nat}{G:Gr}{F:Nat->Prop}(w:World)(hG0:GridAt w p G F):Calls Tryz.prog 99 [pX p].toArray w fun e w'=>
 ∃g F',e= .returned (pX g)/\GridAt w' g G F'/\(∀b,F' b->w.heap.size<=b)/\Ch (fun _=>False) w w':=by
 obtain⟨r,rc,rows,hG⟩:=hG0;have h7:=qo9 ⟨r,rc,rows,hG⟩;have aK:=hG.len;have aL:=hG.ok.2.1;have aM:=hG.ok.1;refine yA Tryz.func99 rfl<|yx 1<|ys<|yD [9] fun aN aO a8=>?_;have D:=zu (zm w) a8 iZ;refine yd (uL 0 9) [] (.l (qg (Up.ch D) (hG.head.c 0) id) (.l (qg (Up.ch D) (hG.head.c 1) id) .z))<|yK 9 (yN [iX G.w,iX G.h,nX] 112 fun s d a9 aP M aa=>?_);have aQ:=zn a9 D;have E:=zu D aa iZ;refine q8<|yd [10] [] .z<|yDe (nS ?_);refine ys<|ysr<|yp 6 [] (.l (qg (Up.ch E) (hG.head.c 2) id) .z)<|ye<|qa<|qT [3,19,20,21] (f':=[(3,pX d),(19,.slice (some ⟨r,0,none⟩) rows.length rc),(20,iX ((rows.length:Nat):Int)),(21,iX 0)])<|qx (σ:=Nat×Option Nat×Nat) (fun⟨k,o,oc⟩=>[(3,pX d),(19,.slice (some ⟨r,0,none⟩) rows.length rc),(20,iX ((rows.length:Nat):Int)),(21,iX ((k:Nat):Int))]) (fun⟨k,o,oc⟩ u=>k<=rows.length/\Ch (· =d) s u/\ ∃t,Blk u d [iX G.w,iX G.h,.slice (o.map at0) k oc] qgf/\NewRows s u o k oc t G.w/\t.map Row.l=(rows.map Row.l).take k) (fun⟨k,o,oc⟩=>rows.length-k) (0,none,0) rfl ?_ ?_
 ·exact⟨Nat.zero_le _,Ch.refl _ _,[],M,NewRows.nil _,rfl⟩
 intro p A ab aR ac;obtain⟨k,o,oc⟩:=p;obtain⟨hk,H,t,hB,hN,T⟩:=ab;have U:=zu E H (fun i hi (h:i=d)=>by omega);have aS:w.heap.size<=s.heap.size:=zzs E;have ad:s.heap.size<=A.heap.size:=zzs H;have ae:d<s.heap.size:=M.lt;refine yx 1<|ys<|yc (rL ((k:Nat):Int) ((rows.length:Nat):Int)) (fun af=>?_) fun af=>?_
 ·obtain⟨q,hq,I⟩:=qh2 (rows:=rows) (k:=k) (by omega);have V:=(hG.line q I).2;have ag:=hG.ok.2.2.2 _ (hG.lines▸List.mem_map_of_mem I);refine yk<|ys<|qa<|ysr<|yp 3 [] (.i ((k:Nat):Int) (rows.length) (.l (qgM (Ch.rd (Up.ch U) hG.body.rd id) hq) .z))<|ye<|yDC [8,11] fun aT aU B=>?_;have N:=zu U B iZ;have W:=zt H B eZ;have X:=zt (Ch.refl (fun j=>j=d\/o=some j) A) B eZ;have O:=hB.ch B id;have ah:=hN.out.own.ch B iZ;refine ydC (uL 0 6) [] (fun u hu=>(.l (qg hu (O.c 2) id) .z))<|yH 6 (yC (qeq q.b q.n q.cap q.l _ ((hG.line q I).1.ch (Up.ch N) id).rd (Nat.lt_of_lt_of_le (hG.line q I).1.lt (zzs N)) V (by omega)) ?_);rintro _ aV ⟨m,C,rfl,ai,Y,v⟩;refine⟨_,rfl,?_⟩;have aj:A.heap.size<=m:=Nat.le_trans (zzs X) Y;have aW:s.heap.size<=m:=Nat.le_trans (zzs W) Y;have ak:Df d m:=(show¬d=m by have:=O.lt;omega)
  have al:=zu N v iZ;have Z:=zt W v eZ;have a0:=zt X v eZ;have am:=O.ch v id;have an:=ah.ch v iZ;refine qaM v<|yH 7 (yB [.slice (some ⟨m,0,none⟩) q.n C] 118 1 fun aX P Q aY ao y=>?_);have aZ:=zn Q al;have b0:s.heap.size<=P:=by rw[Q];exact zzs Z
  have b1:A.heap.size<=P:=by rw[Q];exact zzs a0
  have ap:=zt Z y eZ;have a1:=zt a0 y eZ;have a2:=am.ch y id;have a3:=an.ch y iZ;have R:=ai.ch y id;refine qaM y ?_;refine yK 8 (qaD 118 1 24 o k oc (t.map Row.val) (some ⟨P,0,none⟩) 1 1 [Row.val (Row.mk m q.n C q.l)] (some 33) (k+1) rfl ((t++[(Row.mk m q.n C q.l)]).map Row.val) (by rw[List.map_append];rfl) (by kernel_rfl) a3 (Rd.all ao) rfl rfl (fun h=>by cases h) (by constructor<;>first|omega|(simp only[maxLen];omega)) ?_);intro b2 aq a4 ar S au J;obtain⟨K,rfl⟩:∃b,aq=some b:=au (by omega);have a5:¬o=some d:=fun e=>by have:=hN.lo _ e;have:=M.lt;omega
  have a6:¬o=some m:=qaO a3 R;have av:Df d K:=qbm S (fun e=>a5 e) a2.lt;have b3:Df m K:=qbm S (fun e=>a6 e) R.lt;have aw:=zt ap J (fun i hi h=>by have:=hN.lo _ h;omega);have ax:=zt a1 J (fun _ _ h=> .inr h);have ay:=a2.ch J a5;have az:=R.ch J a6;refine q8<|yd [9,10] [] .z<|yK 11 (yT [iX G.w,iX G.h,.slice (some ⟨K,0,none⟩) (k+1) a4] ay fun b4 aA L=>?_);have aB:=zt aw L iZ;have aC:=zt ax L (fun i _ (h:i=d)=> .inl h);have aD:=az.ch L (fun h=>ak h.symm);have aE:=ar.ch L (fun b e=>by cases e;exact(fun h=>av h.symm));refine q8<|yDe (nB (nS ?_));refine q7<|yp 2 [] (.q6 (((k:Nat):Int)+1) .z) ?_;have aF:=qex (x:=(Row.mk m q.n C q.l)) hN (by omega) ad aC (fun b h=>h.imp (fun e=>by omega) id) aD aj ag V aE (S.imp id fun⟨b,e,h⟩=>⟨b,e,Nat.le_trans (zzs a1) h⟩);have aG:(t++[(Row.mk m q.n C q.l)]).map Row.l=(rows.map Row.l).take (k+1):=by rw[List.map_append,T,qcU hq];rfl
  refine yE (fun a ha=>ac (k+1,some K,a4) _ ⟨by omega,aB,_,aA,aF,aG⟩ (by show rows.length-(k+1)<rows.length-k;omega) a (ha.kp [3,19,20,21]))
 have aH:k=rows.length:=by omega
 obtain⟨r',rfl⟩:=hN.some (by omega);refine ql (eS (qd (qb (nS ?_))));refine yx 2<|q9 (yR1 (pX d) ?_);have a7:=hN.grid (F:=fun b=>w.heap.size<=b/\b<A.heap.size) hB ae hG.ok.1 hG.ok.2.1 (by omega) ⟨by omega,by omega⟩ (fun b h=>⟨by omega,h.2⟩) (fun b h=>⟨h.2,by omega⟩);have aI:(rows.map Row.l).take k=G.lines:=by rw[aH,<-List.length_map (f:=Row.l),List.take_length,hG.lines]
 rw[T,aI]at a7;exact⟨d,_,rfl,⟨r',oc,t,a7⟩,(fun _ h=>h.1),zt (Up.ch E) H (fun i hi (h:i=d)=>by omega)⟩
theorem qle (ad:Addr)(n cap:Nat)(l:List Int)(w:World)(hr:Rd w (some ad) (l.map (Value.int .i64)))(hn:l.length=n)(hnb:n<=1000000):Calls Tryz.prog 101 [.slice (some ad) n cap].toArray w fun e w'=> ∃o cap',e= .returned (.slice (o.map at0) n cap')/\Own w' tI 1 o n cap' (l.map (Value.int .i64))/\(∀b,o=some b->w.heap.size<=b)/\Ch (fun _=>False) w w':=by
 refine yA Tryz.func101 rfl<|yx 1<|ys<|yx 2<|yc (rY ((some ad)).isNone) (fun c=>?_) fun c=>?_
 ·exact absurd c (by simp)
 refine yk<|ysr<|yo (e_bs0 3 (some 5) (by kernel_rfl) ?_);intro x d q y r f;have z:=zn q (zm w);have j:=zu (zm w) f iZ;have s:=hr.ch f iZ;refine yq 2 ?_;refine yo (qaD 3 1 8 (some d) 0 0 [] (some ad) n cap (l.map (Value.int .i64)) (some 7) n (Nat.zero_add _) (l.map (Value.int .i64)) rfl (by kernel_rfl) (Own.blk r rfl (Nat.zero_le _)) s (by rw[List.length_map,hn,Nat.mul_one]) (by exact qab _) (fun h=>by cases h) (by constructor<;>(first|omega|(simp only[maxLen];omega))) ?_);intro A t k u m B a;obtain⟨p,rfl⟩:∃g,t=some g:=by rcases m with h|⟨g,h,_⟩<;>exact⟨_,h⟩
 replace a:=qi9 a;have v:=zu j a (fun i hi (h:i=d)=>by omega);refine yz 4<|q9 (yR1 (.slice (some ⟨p,0,none⟩) n k) ?_);exact⟨some p,k,rfl,u,(fun b e=>by cases e;exact qls m (by omega) (zzs j)),Up.ch v⟩
theorem qlf (w:World):Calls Tryz.prog 101 [nX].toArray w fun e w'=> ∃o cap',e= .returned (.slice (o.map at0) 0 cap')/\Own w' tI 1 o 0 cap' (([]:List Int).map (Value.int .i64))/\(∀b,o=some b->w.heap.size<=b)/\Ch (fun _=>False) w w':=by
 refine yA Tryz.func101 rfl<|yx 1<|ys<|yx 2<|yct<|yx 1<|q9 (rS (yR1 (nX) ?_));exact⟨none,0,rfl,Own.nil _ _ _,(fun b e=>by cases e),Up.ch (zm w)⟩
theorem qns {a:Option Addr}{n cap:Nat}{l:List Int}(w:World)(hr:Rd w a (l.map (Value.int .i64)))(hn:l.length=n)(hz:a=none->cap=0)(hnb:n<=1000000):Calls Tryz.prog 101 [.slice a n cap].toArray w fun e w'=> ∃o cap',e= .returned (.slice (o.map at0) n cap')/\Own w' tI 1 o n cap' (l.map (Value.int .i64))/\(∀b,o=some b->w.heap.size<=b)/\Ch (fun _=>False) w w':=by
 cases a with
 |some ad=>exact qle ad n cap l w hr hn hnb
 |none=>
  have c:=hr.1 rfl;obtain rfl:l=[]:=by simpa using c
  obtain rfl:0=n:=hn;rw[hz rfl];exact qlf w
structure BackN (wb w:World)(o:Option Nat)(n cap:Nat)(rows:List Row):Prop where
 out:OutAt w o n cap rows (fun b=>wb.heap.size<=b/\b<w.heap.size)
theorem BackN.nil (w:World):BackN w w none 0 0 []:=
 ⟨⟨Own.nil _ _ _,(fun x hx=>by cases hx),(fun x hx=>by cases hx),(fun b e=>by cases e),(fun b h=>by omega),(fun b h=>by omega)⟩⟩
theorem BackN.lo {wb w:World}{o:Option Nat}{n cap:Nat}{rows:List Row}(h:BackN wb w o n cap rows):∀b,o=some b->wb.heap.size<=b:=fun b e=>(h.out.oK b e).1
theorem qnt {wb wk w':World}{o o':Option Nat}{k oc oc':Nat}{rows:List Row}{x:Row}{S:Nat->Prop}(h:BackN wb wk o k oc rows)(h7:gTop<=wb.heap.size)(hs:wb.heap.size<=wk.heap.size)
  (hc:Ch S wk w') (hS:∀b,S b->b<wb.heap.size\/o=some b) (hl:LineAt w' x.b x.l x.cap) (hb:wk.heap.size<=x.b) (hn:x.l.length=x.n)
  (hown:Own w' qbU 1 o' (k+1) oc' ((rows++[x]).map Row.val)) (ho':o'=o\/ ∃b,o'=some b/\wk.heap.size<=b):BackN wb w' o' (k+1) oc' (rows++[x]):=by
 have hsz:=hc.size
 have hlt':∀b,o'=some b->b<w'.heap.size:=fun b e=>by subst e;exact hown.lt
 refine⟨⟨hown,?_,?_,?_,fun b h=>h.2,fun b h=>by omega⟩⟩
 ·intro z hz
  rcases List.mem_append.1 hz with hz|hz
  ·have hk:=h.out.inK z hz
   refine⟨(h.out.line z hz).1.ch hc fun hs'=>?_,(h.out.line z hz).2⟩
   rcases hS _ hs' with h1|h1
   ·omega
   ·exact qaO h.out.own (h.out.line z hz).1 h1
  ·obtain rfl:=List.mem_singleton.1 hz
   exact⟨hl,hn⟩
 ·intro z hz
  rcases List.mem_append.1 hz with hz|hz
  ·have:=h.out.inK z hz;omega
  ·obtain rfl:=List.mem_singleton.1 hz
   exact⟨by omega,hl.lt⟩
 ·intro b e
  have:=hlt' b e
  rcases ho' with h'|⟨b',h',h2⟩
  ·have:=h.lo b (h'▸e);omega
  ·rw[e]at h';obtain rfl:=Option.some.inj h';omega
theorem copy_of {w:World}{c g q m0 m1 m2 m3 m4 n3 c3 n4 c4:Nat}{o3 o4:Option Nat}{rows:List Row}{T:TS}{F1 F2:Nat->Prop}
  (hb:Blk w c (T.vals g q (.slice (o3.map at0) n3 c3) (.slice (o4.map at0) n4 c4)) qap) (h1:GridAt w g T.grid F1) (h2:GridAt w q T.other F2) (l1:∀b,F1 b->m1<=b/\b<m2) (l2:∀b,F2 b->m2<=b/\b<m3)
  (h3:OutAt w o3 n3 c3 rows (fun b=>m3<=b/\b<m4)) (e3:rows.map Row.l=T.back) (h4:Own w tI 1 o4 n4 c4 (T.parser.params.map (Value.int .i64))) (l4:∀b,o4=some b->m4<=b)
  (h7:gTop<=m0) (hc:m0<=c/\c<m1) (hm:m1<=m2/\m2<=m3/\m3<=m4/\m4<=w.heap.size):TermAt w c T (fun b=>m0<=b/\b<w.heap.size):=by
 refine⟨g,q,o3.map at0,n3,c3,o4.map at0,n4,c4,F1,F2,fun b=>m3<=b/\b<m4,fun b=>m4<=b/\b<w.heap.size,?_⟩
 exact
 {blk:=hb
  g1:=h1
  g2:=h2
  bk:=⟨rows,h3.lines,e3⟩
  bcap:=⟨h3.own.2.1,fun e=>by
   cases o3 with
   |none=>exact(h3.own.2.2.2.1 rfl).2
   |some b=>cases e⟩
  ps:=⟨h4.rd,by have:=h4.1;rwa[List.length_map,Nat.mul_one]at this,(fun e=>by
   cases o4 with
   |none=>exact(h4.2.2.2.1 rfl).2
   |some b=>cases e),fun ad e=>by
   cases o4 with
   |none=>cases e
   |some b=>cases e;exact⟨l4 b rfl,h4.lt⟩⟩
  pz:=⟨o4,rfl⟩
  bz:=by
   cases o3 with
   |none=>exact .inl rfl
   |some b=>exact .inr ⟨b,0,rfl⟩
  t1:=fun h=>by have:=l1 _ h;omega
  t2:=fun h=>by have:=l2 _ h;omega
  tB:=fun h=>by omega
  tP:=fun h=>by omega
  a12:=fun b h h'=>by have:=l1 _ h;have:=l2 _ h';omega
  a1B:=fun b h h'=>by have:=l1 _ h;omega
  a2B:=fun b h h'=>by have:=l2 _ h;omega
  a1P:=fun b h h'=>by have:=l1 _ h;omega
  a2P:=fun b h h'=>by have:=l2 _ h;omega
  inF:=⟨⟨hc.1,hb.lt⟩,fun b h=>by have:=l1 _ h;omega,fun b h=>by have:=l2 _ h;omega,fun b h=>by omega,fun b h=>by omega⟩
  lt:=fun b h=>h.2
  hi:=fun b h=>by omega}
theorem qmm {w:World}{t:Nat}{T:TS}{F:Nat->Prop}(hA0:TermAt w t T F)(he:EncOk T):Calls Tryz.prog 68 [pX t].toArray w fun e w'=>
 ∃c,e= .returned (pX c)/\TermAt w' c T (fun b=>w.heap.size<=b/\b<w'.heap.size)/\Ch (fun _=>False) w w':=by
 obtain⟨g,o,ba,bn,bc,pa,pn,pc,F1,F2,FB,FP,hI⟩:=hA0;have h7:gTop<=w.heap.size:=Nat.le_trans (hI.hi t hI.inF.1) (Nat.le_of_lt (hI.lt t hI.inF.1));obtain⟨rows,r,S⟩:=hI.bk;have bP:=r.len;have bQ:bn<=60:=by have h2:=he.k.1;rw[<-S,List.length_map]at h2;omega
 refine yA Tryz.func68 rfl<|yx 1<|ysr<|yp 3 [] (.a (qan (Up.ch (zm w)) (hI.blk.cs 0 108) id) .z)<|yo (yN [.pointer none,.pointer none,iX 0,iX 0,.bool false,.bool false,.bool false,.bool false,iX 0,iX 0,iX 0,iX 0,.bool false,.bool false,.bool false,.bool false,iX 0,iX 0,iX 0,iX 0,.bool false,.bool false,.bool false,.bool false,iX 0,iX 0,iX 0,iX 0,.bool false,.bool false,.bool false,.bool false,.bool false,.bool false,.bool false,.bool false,.bool false,.bool false,.bool false,.bool false,.bool false,.bool false,.bool false,.bool false,.bool false,.bool false,.bool false,.bool false,.bool false,.bool false,.bool false,.bool false,.bool false,.bool false,.bool false,.bool false,.bool false,.bool false,.bool false,.bool false,.bool false,.bool false,.bool false,.bool false,.bool false,.bool false,.bool false,.bool false,.bool false,.bool false,.bool false,.bool false,.bool false,.bool false,.bool false,.bool false,.bool false,.bool false,.bool false,.bool false,.bool false,.bool false,.bool false,.bool false,.bool false,.bool false,.bool false,.bool false,.bool false,.bool false,.bool false,.bool false,.bool false,.bool false,.bool false,.bool false,oX,nX,iX 0,uX 0,uX 0,uX 0,iX 0,oX,nX,oX,iX 0,oX] 96 fun bR d az bS aA aB=>?_);have bT:=zn az (zm w);have aC:=zu (zm w) aB iZ;refine yo (yT (TS.vals T g o (.slice ba bn bc) (.slice pa pn pc)) aA fun bU aD aE=>?_)
 have aF:=zu aC aE (fun i hi (h:i=d)=>by omega);refine ye<|ys<|yDC [9,11,13] fun aG bV a2=>?_;have I:=zu aF a2 iZ;have a3:=aD.ch a2 id;refine ydC [0,1,2,3,5,6,7,8] [] (fun u hu=>(.l (qg hu (qg (Up.ch I) (hI.blk.c 0) id) id) (.l (qg hu (qg (Up.ch I) (hI.blk.c 1) id) id) .z))) ?_;have aH:=a3.lt;refine yH 4 (yC (qku _ (hI.g1.ch (Up.ch I) iZ)) ?_);rintro _ aI ⟨y,bW,rfl,a4,a5,J⟩;refine⟨_,rfl,?_⟩;have aJ:=a4.lt;have aK:=zzs J;have a6:=zu I J iZ;have a7:=a3.ch J id;refine qaM J ?_;have bX:=a7.lt;refine yK 9 (yC (qku _ (hI.g2.ch (Up.ch a6) iZ)) ?_);rintro _ aL ⟨D,bY,rfl,a8,a9,K⟩;refine⟨_,rfl,?_⟩;have aM:=a8.lt;have bZ:=zzs K;have aN:=zu a6 K iZ;have aO:=a7.ch K id;have aP:=a4.ch K iZ;refine q8<|yd [10] [] .z<|yK 11 (yS aO fun c0 aQ aa=>?_);have aR:=zu aN aa (fun i hi (h:i=d)=>by omega);have aS:=zt (Ch.refl (· =d) aL) aa iZ;have aT:Blk _ d (TS.vals T y o (.slice ba bn bc) (.slice pa pn pc)) qap:=Blk.to aQ (by kernel_rfl);refine q8<|yd [12] [] .z<|yK 13 (yS aT fun c1 aU ab=>?_);have aV:=zu aR ab (fun i hi (h:i=d)=>by omega);have aW:=zt aS ab iZ;have aX:Blk _ d (TS.vals T y D (.slice ba bn bc) (.slice pa pn pc)) qap:=Blk.to aU (by kernel_rfl);refine q8<|yDe (nS ?_);refine ysr<|yq 1<|yo (yS aX fun s aY ac=>?_);have U:=zu aV ac (fun i hi (h:i=d)=>by omega);have ad:=zt aW ac iZ
 have V:Blk _ d (TS.vals T y D (nX) (.slice pa pn pc)) qap:=Blk.to aY (by kernel_rfl);refine ye<|ys<|ysr<|yp 6 [] (.l (qg (Up.ch U) (hI.blk.c 97) id) .z)<|ye<|qa<|qT [0,3,25,26,27] (f':=[(0,pX t),(3,pX d),(25,.slice ba bn bc),(26,iX ((bn:Nat):Int)),(27,iX 0)])<|qx (σ:=Nat×Option Nat×Nat) (fun⟨k,o,oc⟩=>[(0,pX t),(3,pX d),(25,.slice ba bn bc),(26,iX ((bn:Nat):Int)),(27,iX ((k:Nat):Int))]) (fun⟨k,o,oc⟩ u=>k<=bn/\Ch (· =d) s u/\ ∃A,Blk u d (TS.vals T y D (.slice (o.map at0) k oc) (.slice pa pn pc)) qap/\BackN s u o k oc A/\A.map Row.l=(rows.map Row.l).take k) (fun⟨k,o,oc⟩=>bn-k) (0,none,0) rfl ?_ ?_
 ·exact⟨Nat.zero_le _,Ch.refl _ _,[],V,BackN.nil _,rfl⟩
 intro p v aZ c2 b0;obtain⟨k,o,oc⟩:=p;obtain⟨hk,L,A,hB,hN,ae⟩:=aZ;have E:=zu U L (fun i hi (h:i=d)=>by omega);have b1:=zt ad L iZ;have c3:w.heap.size<=s.heap.size:=zzs U;have af:s.heap.size<=v.heap.size:=zzs L;have c4:d<s.heap.size:=V.lt;have c5:=zzs ad;refine yx 1<|ys<|yc (rL ((k:Nat):Int) ((bn:Nat):Int)) (fun b2=>?_) fun b2=>?_
 ·obtain⟨bb,bo,rfl⟩:=qpn hI.bz r (by omega);obtain⟨q,hq,M⟩:=qh2 (rows:=rows) (k:=k) (by have:=r.len;omega);have ag:=(r.line q M).2;have c6:=(he.k.2 q.l (S▸List.mem_map_of_mem M)).1;refine yk<|ys<|qa<|ysr<|yp 3 [] (.i ((k:Nat):Int) (bn) (.l (qgM (Ch.rd (Up.ch E) r.rd id) hq) .z))<|ye<|yDC [5,7] fun c7 c8 G=>?_;have W:=zu E G iZ;have ah:=zt L G eZ;have ai:=zt (Ch.refl (fun j=>j=d\/o=some j) v) G eZ;have X:=hB.ch G id;have b3:=hN.out.own.ch G iZ;refine ydC (uL 0 3) [] (fun u hu=>(.l (qg hu (X.c 97) id) .z))<|yH 3 (yC (qeq q.b q.n q.cap q.l _ ((r.line q M).1.ch (Up.ch W) id).rd (Nat.lt_of_lt_of_le (r.line q M).1.lt (zzs W)) ag (by omega)) ?_);rintro _ c9 ⟨m,H,rfl,b4,aj,B⟩;refine⟨_,rfl,?_⟩;have b5:v.heap.size<=m:=Nat.le_trans (zzs ai) aj;have ca:s.heap.size<=m:=Nat.le_trans (zzs ah) aj;have b6:Df d m:=(show¬d=m by have:=X.lt;omega)
  have b7:=zu W B iZ;have ak:=zt ah B eZ;have al:=zt ai B eZ;have b8:=X.ch B id;have b9:=b3.ch B iZ;refine qaM B<|yH 4 (yB [.slice (some ⟨m,0,none⟩) q.n H] 118 1 fun cb Y Z cc bd C=>?_);have cd:=zn Z b7;have ce:s.heap.size<=Y:=by rw[Z];exact zzs ak
  have cf:v.heap.size<=Y:=by rw[Z];exact zzs al
  have bf:=zt ak C eZ;have am:=zt al C eZ;have an:=b8.ch C id;have ao:=b9.ch C iZ;have a0:=b4.ch C id;refine qaM C ?_;refine yK 5 (qaD 118 1 24 o k oc (A.map Row.val) (some ⟨Y,0,none⟩) 1 1 [Row.val (Row.mk m q.n H q.l)] (some 36) (k+1) rfl ((A++[(Row.mk m q.n H q.l)]).map Row.val) (by rw[List.map_append];rfl) (by kernel_rfl) ao (Rd.all bd) rfl rfl (fun h=>by cases h) (by constructor<;>first|omega|(simp only[maxLen];omega)) ?_);intro cg bg ap bh a1 bi N;obtain⟨O,rfl⟩:∃b,bg=some b:=bi (by omega);have aq:¬o=some d:=fun e=>by have:=hN.lo _ e;have:=V.lt;omega
  have ar:¬o=some m:=qaO ao a0;have bj:Df d O:=qbm a1 (fun e=>aq e) an.lt;have ci:Df m O:=qbm a1 (fun e=>ar e) a0.lt;have bl:=zt bf N (fun i hi h=>by have:=hN.lo _ h;omega);have bm:=zt am N (fun _ _ h=> .inr h);have bp:=an.ch N aq;have bq:=a0.ch N ar;refine q8<|yd [6] [] .z<|yK 7 (yS bp fun cj br P=>?_);have bs:=zt bl P iZ;have bt:=zt bm P (fun i _ (h:i=d)=> .inl h);have bu:=bq.ch P (fun h=>b6 h.symm);have bv:=bh.ch P (fun b e=>by cases e;exact(fun h=>bj h.symm));have bw:Blk _ d (TS.vals T y D (.slice (some ⟨O,0,none⟩) (k+1) ap) (.slice pa pn pc)) qap:=Blk.to br (by kernel_rfl);refine q8<|yDe (nB (nS ?_));refine q7<|yp 2 [] (.q6 (((k:Nat):Int)+1) .z) ?_;have bx:=qnt (x:=(Row.mk m q.n H q.l)) hN (by omega) af bt (fun b h=>h.imp (fun e=>by omega) id) bu b5 ag bv (a1.imp id fun⟨b,e,h⟩=>⟨b,e,Nat.le_trans (zzs am) h⟩);have bA:(A++[(Row.mk m q.n H q.l)]).map Row.l=(rows.map Row.l).take (k+1):=by rw[List.map_append,ae,qcU hq];rfl
  refine yE (fun a ha=>b0 (k+1,some O,ap) _ ⟨by omega,bs,_,bw,bx,bA⟩ (by show bn-(k+1)<bn-k;omega) a (ha.kp [0,3,25,26,27]))
 have bB:k=rows.length:=by have:=r.len;omega
 refine ql (eS (qd (qb (nS ?_))));refine ysr<|yp 5 [] (.l (qg (Up.ch E) (hI.blk.c 104) id) .z) ?_;have ck:=hB.lt;have cl:=zzs (Ch.refl (· =d) v);refine yo (yC (qns _ (hI.ps.1.ch (Up.ch E) iZ) hI.ps.2.1 hI.ps.2.2.1 (by have:=he.p.n;have:=hI.ps.2.1;omega)) ?_);rintro _ cm ⟨bC,bD,rfl,bE,au,Q⟩;refine⟨_,rfl,?_⟩;have bF:=zu E Q iZ;have bG:=zt b1 Q eZ;have bH:=zt (Ch.refl (· =d) v) Q eZ;have bI:=hB.ch Q id;refine yq 8<|yo (yS bI fun cn bJ R=>?_);have bK:=zu bF R (fun i hi (h:i=d)=>by omega);have av:=zt bG R iZ;have aw:=zt bH R iZ;have bL:Blk _ d (TS.vals T y D (.slice (o.map at0) k oc) (.slice (bC.map at0) pn bD)) qap:=Blk.to bJ (by kernel_rfl);refine ye<|yx 1<|q9 (yR1 (pX d) ?_);have hP:=bE.ch R (fun b e (h:b=d)=>by have:=au b e;omega);have co:=zzs aw;have bM:(rows.map Row.l).take k=T.back:=by rw[bB,<-List.length_map (f:=Row.l),List.take_length,S]
 exact⟨d,rfl,copy_of (m0:=w.heap.size) (m1:=aG.heap.size) (m2:=aI.heap.size) (m3:=s.heap.size) (m4:=v.heap.size) bL (aP.ch av (fun b hb e=>by have:=a5 b hb;omega)) (a8.ch av (fun b hb e=>by have:=a9 b hb;omega)) (fun b hb=>⟨a5 b hb,aJ b hb⟩) (fun b hb=>⟨a9 b hb,by have:=aM b hb;omega⟩) (hN.out.ch aw (fun b hb e=>by omega)) (ae.trans bM) hP (fun b e=>by have:=au b e;omega) h7 ⟨by omega,aH⟩ ⟨aK,by omega,af,by omega⟩,Up.ch bK⟩
theorem apply_at {t:Nat}{T:TS}{F:Nat->Prop}(e:Ev)(w:World)(hA:(qav t T).P w F)(hg:Gz w F)(hT:LT w)(hFi:Fine T)(hz:e.data.size<=1000000):Calls Tryz.prog 75 [pX t,.agg e.vals.toArray].toArray w fun x w'=>x= .returned (.tuple #[])/\qke (qav t T) (qav t (qU T e)) F w w':=by
 have h:=Sep.one hA fun b hb=>(hg.lo b hb).2;obtain⟨⟨W,H,hL⟩,hp⟩:=hFi;refine yA Tryz.func75 rfl<|ysr<|yo (zN [iX e.time,iX e.kind,.string e.data,iX e.w,iX e.h] 66 h fun u m h=>?_);refine ye<|ysr<|yp 2 [] (.l (h.c 1 1) .z)<|ye<|qa<|yx 2<|yc (rE e.kind 0) (fun d=>?_) fun d=>?_
 ·have i:=d;refine q7<|yp 3 [] (.l (h.c 1 2) .z)<|yo (yQ (h.met 0 fun F hA hF=>qlN hA (h.lt hg hT) hL hp e.data hz) fun u h=>?_);refine yE (nB (qR ?_));have a:qU T e=(qgt T e.data):=by unfold qU;rw[if_pos i]
  rw[a];exact⟨rfl,h.finS hg 0⟩
 have g:=d;refine yx 2<|yc (rE e.kind 2) (fun f=>?_) fun f=>?_
 ·have j:=f;refine q7<|yp 5 [] (.l (h.c 1 3) (.l (h.c 1 4) .z))<|yo (yQ (h.met 0 fun F hA hF=>qjQ hA (h.lt hg hT) hL e.w e.h) fun u h=>?_);refine yE (nB (qR ?_));have a:qU T e=(qcz T e.w e.h):=by unfold qU;rw[if_neg g,if_pos j]
  rw[a];exact⟨rfl,h.finS hg 0⟩
 have k:=f;refine qk (nB (qR ?_));have a:qU T e=T:=by unfold qU;rw[if_neg g,if_neg k]
 rw[a];exact⟨rfl,h.finS hg 0⟩
section
variable {w0 w:World}{F0:Nat->Prop}{l:List Asn}{t:Nat}{T:TS}
theorem Sep.app (h:Sep w0 F0 w l)(hg:Gz w0 F0)(hT:LT w0)(i:Nat)(e:Ev)(hFi:Fine T)(hz:e.data.size<=1000000)(hi:l[i]? =some (qav t T):=by rfl):Calls Tryz.prog 75 [pX t,.agg e.vals.toArray].toArray w fun x w'=>x= .returned (.tuple #[])/\Sep w0 F0 w' (l.set i (qav t (qU T e))):=
  h.stepA hg i (fun F hA hF=>apply_at e _ hA hF (h.lt hg hT) hFi hz) hi
theorem Sep.encT (h:Sep w0 F0 w l)(i:Nat)(he:EncOk T)(hi:l[i]? =some (qav t T):=by rfl):Calls Tryz.prog 27 [pX t].toArray w fun e w'=> ∃o n c,e= .returned (.slice (o.map at0) n c)/\Sep w0 F0 w' (l++[qaz tU8 1 o n c (u8s (qN T))]):=by
 obtain⟨F,hA,_⟩:=h.at hi;exact(qi1 (tmA.at hA) he).mono fun _ _ ⟨o,n,c,he,hO,_,hlo,hc⟩=>⟨o,n,c,he,h.fresh hO hlo hc⟩
end
theorem qiZ {w:World}{D off c:Nat}{x:Int}{l:List Int}(h:Rd w (some ⟨D,off,none⟩) (u8s (x::l)))(hl:l.length+1<=c):Rd w (some ⟨D,if c=1 then off else off+1*1,none⟩) (u8s l):=by
 split
 ·obtain rfl:l=[]:=List.eq_nil_of_length_eq_zero (by omega);exact Rd.nil _ _
 exact ql7 h 1
theorem qmn {fr:Int}{s s1:RS}{e:Ev}(h:evR fr s=(some e,s1)):evB e=true:=by
 unfold evR at h;dsimp only at h;split at h
 ·obtain⟨a,_⟩:=Prod.mk.inj h;split at a
  ·rename_i hh;rw[<-zi a];exact hh.2
  cases a
 obtain⟨a,_⟩:=Prod.mk.inj h;split at a
 ·rename_i hh;rw[<-zi a];exact hh.2
 cases a
theorem take_at1 (b:Nat)(r:Rc)(U:TS)(F:Nat->Prop)(a:Option Addr)(m c:Nat)(f:List Int)(w:World)(hA:(qe8 b ⟨r,U⟩).P w F)(hg:Gz w F)(hT:LT w)(hFi:Fine U)(heo:EncOk U)(hel:(qN U).length<=300000)(heB:qaA (qN U))(hla:0<=qae r.evs/\qae r.evs<=4611686018427387904)(hen:r.evs.length+1<=10000000/\r.keys.length+1<=10000000)(hr:Rd w a (u8s f))(hl:f.length=m)(hle:m<=c)(hz:(m=0/\c=0)\/ ∃b o,a=some ⟨b,o,none⟩)(hby:qaA f)(hm:m<=100000000)(hne:∀ad,a=some ad-> ¬F ad.block)(hlt:∀ad,a=some ad->ad.block<w.heap.size):Calls Tryz.prog 82 [pX b,.slice a m c].toArray w fun e w'=>e= .returned (.bool (qb5 ⟨r,U⟩ f).isSome)/\qke (qe8 b ⟨r,U⟩) (qe8 b ((qb5 ⟨r,U⟩ f).getD ⟨r,U⟩)) F w w':=by
 obtain⟨x,h⟩:=Sep.startA hA hg;obtain⟨sa,sn,sc,eo,ec,ko,kc,kx,t⟩:=x;have B:=h.pure 4;have M:0<r.keys.length-> ∃kb,ko=some kb:=fun h1=>h.rc.kb h1;refine yA Tryz.func82 rfl<|yx 1<|ys<|yx 3<|yc (rE ((m:Nat):Int) 0) (fun S=>?_) fun S=>?_
 ·have bd:=S;refine yx 1<|q9 (rS (yR1 (.bool false) ?_));obtain rfl:f=[]:=List.eq_nil_of_length_eq_zero (by omega);rw[show qb5 ⟨r,U⟩ []=none from rfl];exact⟨rfl,(Sep.scan (start:=r.start) (evs:=r.evs) (keys:=r.keys) kx (h.ord [0,1,2,3,5]).eqv rfl rfl rfl rfl B).finS hg 0⟩
 have bf:=S;obtain⟨h0,_⟩|⟨D,p,rfl⟩:=hz
 ·exfalso;omega
 obtain⟨K,l,rfl⟩:∃K l,f=K::l:=by cases f with|nil=>simp at hl;omega|cons x y=>exact⟨x,y,rfl⟩
 have hD:=hne _ rfl;have ah:=hlt _ rfl;have bh:l.length+1=m:=hl;have g:qaA l:=fun y hy=>hby y (List.mem_cons_of_mem _ hy);refine yk<|ys<|ysr<|yp 3 [] (.i 0 (m) (.l (u8_at (b:=D) (o:=p) (hr.ch h.ch (fun ad e=>by cases e;exact hD)) 0 (Nat.zero_lt_succ _)) .z))<|ye<|qa<|yx 2<|yc (rE K 69) (fun T=>?_) fun T=>?_
 ·have V:=T;refine ysr<|yp 2 [] (.j 1 (m) .z)<|yo (yC (of_any D (some ⟨D,(if c=(1:Int).toNat then p else p+(1:Int).toNat*1),none⟩) (m-(1:Int).toNat) (c-(1:Int).toNat) l _ (qiZ (hr.ch h.ch (fun ad e=>by cases e;exact hD)) (by omega)) (by omega) (by omega) (.inr ⟨_,rfl⟩) g (by omega) (Nat.lt_of_lt_of_le ah h.ch.size)) ?_);rintro _ u ⟨rv,rfl,aD,aE,aF⟩;refine⟨_,rfl,?_⟩;have h:=h.addR hD ah aE aD aF;refine yz 4<|ysr<|yq 4<|yo (yQ (h.look (qeY b _ h.rc)) fun u h=>?_);obtain⟨vo,R,hE⟩:∃vo R,evR (qae r.evs) (some l)=(vo,R):=⟨_,_,rfl⟩
  refine yo (yQ (h.readO 6 hD fun hA=>qnl (qae r.evs) _ hA hE hla) fun u h=>?_);refine yq 9<|yo (zN [iX 0,iX 0,oX,iX 0,iX 0] 66 h fun u bi h=>?_);refine yo (zs h 7 fun u h=>?_);refine yz 12<|ys<|ysr<|yq 3<|yw [31] (rN (rY vo.isSome)) (fun W=>?_) fun W=>?_
  ·have aG:=W;refine yz 7<|yct<|yx 1<|q9 (rS (rB (rS (yR1 (.bool false) ?_))));obtain rfl:K=69:=V;rw[qmj hE (.inl (by simpa using aG))];exact⟨rfl,(Sep.scan (start:=r.start) (evs:=r.evs) (keys:=r.keys) kx (h.ord [0,1,2,3,5]).eqv rfl rfl rfl rfl B).finS hg 0⟩
  have aH:=W;obtain⟨ev,rfl⟩:=Option.isSome_iff_exists.1 aH;have aI:=qmn hE;have aJ:ev.data.size<=1000000:=by have:=(qgI aI).1.2;omega
  refine yq 4<|yo (yQ (h.look (qm7 (h.rdrO 6 hD))) fun u h=>?_);refine yz 7<|yc (rN (rY (decide (R=some [])))) (fun X=>?_) fun X=>?_
  ·have aK:=X;refine yx 1<|q9 (rS (rB (rS (yR1 (.bool false) ?_))));obtain rfl:K=69:=V;rw[qmj hE (.inr (by simpa using aK))];exact⟨rfl,(Sep.scan (start:=r.start) (evs:=r.evs) (keys:=r.keys) kx (h.ord [0,1,2,3,5]).eqv rfl rfl rfl rfl B).finS hg 0⟩
  have aL:=X;refine yk<|ys<|zD [5] h fun u h=>yd (uL 0 5) [] (.l (h.c 0 3) (.a (h.cs 7 0 5) .z))<|yK 5 (yQ (h.app hg hT 5 ev hFi aJ) fun u h=>?_);refine q8<|yDe (nS ?_);refine ys<|zDC [8,12] [0,2,3,4,5,6,7] h fun u h=>ydF (uL 0 7) [] h.on (fun u h=>(.l (h.c 0 1) (.a (h.cs 7 0 5) .z)))<|yH 7 (zB [iX ev.time,iX ev.kind,.string ev.data,iX ev.w,iX ev.h] 66 1 h fun u bj h=>?_);refine zHa h<|yK 8 (zA 1 48 1 1 (r.evs.length+1) (evsV (r.evs++[ev])) h (Rd.all (h.b 8)) rfl (hz:=(qd3 _ _).symm) fun u aM aN h bk=>?_);refine q8<|yd (uL 9 3) [] .z<|yK 12 (zs h 0 fun u h=>?_);refine q8<|yDe (nS ?_);refine yx 1<|q9 (rB (rS (yR1 (.bool true) ?_)));obtain rfl:K=69:=V;obtain rfl:R=some []:=by simpa using aL
  rw[qpE hE];exact⟨rfl,(Sep.scan (start:=r.start) (evs:=r.evs++[ev]) (keys:=r.keys) (sa:=sa) (sn:=sn) (sc:=sc) (ko:=ko) (kc:=kc) (t:=t) (n:=r.evs.length+1) (eo:=aM) (ec:=aN) kx (h.ord [0,1,2,3,5]).eqv (by simp) rfl rfl rfl ⟨B.sl,B.sz,B.kl,by rw[List.length_append];exact hen.1,by have:=hen.2;dsimp only;omega⟩).finS hg 0⟩
 have aO:=T;refine yx 2<|yc (rE K 75) (fun Y=>?_) fun Y=>?_
 ·have aP:=Y;obtain rfl:K=75:=aP;refine ys<|zDC [13] [0,1,2,3,4,5] h fun u h=>ydF (uL 0 10) [] h.on (fun u h=>(.l (h.c 0 1) (.l (h.c 0 3) .z)))<|qa4 10 12 (by kernel_rfl) (by decide) ?_ ?_
  ·refine qF 10 _ (by kernel_rfl) rfl (yC (h.encT 5 heo) ?_);rintro _ u ⟨s,C,E,rfl,h⟩;refine⟨_,rfl,?_⟩;have N:(qN U).length=C:=by have:=h.len1 6;rwa[List.length_map]at this
   have L:s.map at0=none->E=0:=by intro e;cases hq:s with|none=>exact((h.own 6).2.2.2.1 hq).2|some q=>rw[hq]at e;cases e
   refine zHa h<|ydF [11] [] h.on (fun u h=> .z)<|yH 12 (zN [iX 0,nX] 51 h fun u ai h=>?_);refine zHa h<|yK 13 (zs h 7 fun u h=>?_);refine q8<|yDe (nS ?_);refine ys ?_;have h:=h.nrm 7 [iX ((r.evs.length:Nat):Int),.slice (s.map at0) C E];refine qhy (σ:=Bool) (fun gs=>[(0,pX b),(8,pX ai),(103,.bool gs)]) (fun gs u=>(gs=true->qb5 ⟨r,U⟩ (75::l)=none)/\(gs=false->qQ ⟨r.evs.length,qN U⟩=l/\ ¬(0<r.keys.length/\(gky r.keys (r.keys.length-1)).after=r.evs.length))/\Sep w F u [qbr b [.slice sa sn sc,.slice (eo.map at0) r.evs.length ec,.slice (ko.map at0) r.keys.length kc,pX t] 104,qaz tEv 5 eo r.evs.length ec (evsV r.evs),qaz qgS 2 ko r.keys.length kc (qaL kx r.keys 0),roA (roL ⟨sa,sn,sc,eo,ec,ko,kc,kx,t⟩ r),qdT (ScOk ⟨sa,sn,sc,eo,ec,ko,kc,kx,t⟩ r),qav t U,qaz tU8 1 s C E (u8s (qN U)),qbr ai [iX ((r.evs.length:Nat):Int),.slice (s.map at0) C E] 51]) (fun bl I=>?_) (fun gs u h=>?_)
   ·refine zDC [1,2] [0,1,2,3,4,5,6,7] h fun u h=>ydF [0,3] [] h.on (fun u h=>(.a (h.cs 7 0 2) .z))<|ydT [4] [] h.on (fun _=>(.j 1 (m) .z))<|qa4 1 5 (by kernel_rfl) (by decide) ?_ ?_
    ·refine qar 1 _ (by kernel_rfl) rfl (yC (qcT ⟨r.evs.length,qN U⟩ (s.map at0) C E _ (h.ownRd' 6) N L (by have:=N;omega) (by dsimp only;omega)) ?_);rintro _ u ⟨aj,Z,ak,rfl,aQ⟩;refine⟨_,rfl,?_⟩;have h:=h.join aQ;have al:(qQ ⟨r.evs.length,qN U⟩).length=Z:=by have:=h.len1 8;rwa[List.length_map]at this
     refine zK (is:=[0,1,2,3,4,5,6,7]) h<|qa4 2 5 (by kernel_rfl) (by decide) ?_ ?_
     ·refine qar 2 _ (by kernel_rfl) rfl (qp (aj.map at0) Z ak (qQ ⟨r.evs.length,qN U⟩) (some 70) (by kernel_rfl) (h.ownRd' 8) al ?_);refine zK (is:=[0,1,2,3,4,5,6,7]) h<|yH 5 (qp (some ⟨D,(if c=(1:Int).toNat then p else p+(1:Int).toNat*1),none⟩) (m-(1:Int).toNat) (c-(1:Int).toNat) l (some 73) (by kernel_rfl) (qiZ (hr.ch h.ch (fun ad e=>by cases e;exact hD)) (by omega)) (by omega) ?_);refine zH h<|ydF [6,7] [] h.on (fun u h=> .z)<|yv [75] (rN (rY (((qf (qQ ⟨r.evs.length,qN U⟩))).toList==((qf l)).toList))) (fun a0=>?_) fun a0=>?_
      ·have aR:=a0;refine ydF (uL 8 28) [] h.on (fun u h=> .z) ?_;have d:=qs (l:=qQ ⟨r.evs.length,qN U⟩) (qj (qo (by dsimp only;omega)) heB) g;refine yDe (fun a ha=>I true _ ⟨fun _=>qbg fun hh=>absurd hh.1 (of_decide_eq_false (d.symm.trans aR)),fun e=>(by cases e),h.take 8⟩ a (ha.kp [0,8,103]))
      have am:=a0;refine ydF (uL 8 8) [] h.on (fun u h=>(.l (h.c 0 2) .z))<|yv [83] (rL 0 ((r.keys.length:Nat):Int)) (fun a1=>?_) fun a1=>?_
      ·have bm:=a1;obtain⟨kb,rfl⟩:=M (by omega);refine ydF (uL 16 20) [] h.on (fun u h=>(.l (h.c 0 2) (.l (h.c 0 2) (.q6 (((r.keys.length:Nat):Int)-1) (.i (((r.keys.length:Nat):Int)-1) (r.keys.length) (.l (h.kya 2 (((r.keys.length:Nat):Int)-1) (r.keys.length-1) (hq:=(show(r.keys.length-1)<r.keys.length by omega))) (.l (h.c 7 0) .z))))))) ?_;have d:=qs (l:=qQ ⟨r.evs.length,qN U⟩) (qj (qo (by dsimp only;omega)) heB) g;refine yDe (fun a ha=>I (((((gky r.keys (r.keys.length-1)).after:Nat):Int):Int)==((r.evs.length:Nat):Int)) _ ⟨fun e=>qbg fun hh=>hh.2 ⟨by omega,by have:=beq_iff_eq.1 e;omega⟩,fun e=>⟨of_decide_eq_true (d.symm.trans am),fun hh=>(beq_eq_false_iff_ne.1 e) (by have:=hh.2;omega)⟩,h.take 8⟩ a (ha.kp [0,8,103]))
      have bn:=a1;refine ydF (uL 16 20) [] h.on (fun u h=> .z) ?_;have d:=qs (l:=qQ ⟨r.evs.length,qN U⟩) (qj (qo (by dsimp only;omega)) heB) g;refine yDe (fun a ha=>I false _ ⟨fun e=>(by cases e),fun _=>⟨of_decide_eq_true (d.symm.trans am),fun hh=>absurd hh.1 (by omega)⟩,h.take 8⟩ a (ha.kp [0,8,103]))
     refine qF 5 _ (by kernel_rfl) rfl (qp (some ⟨D,(if c=(1:Int).toNat then p else p+(1:Int).toNat*1),none⟩) (m-(1:Int).toNat) (c-(1:Int).toNat) l (some 73) (by kernel_rfl) (qiZ (hr.ch h.ch (fun ad e=>by cases e;exact hD)) (by omega)) (by omega) ?_);refine zH h<|yK 2 (qp (aj.map at0) Z ak (qQ ⟨r.evs.length,qN U⟩) (some 70) (by kernel_rfl) (h.ownRd' 8) al ?_);refine q8<|yd [6,7] [] .z<|yv [75] (rN (rY (((qf (qQ ⟨r.evs.length,qN U⟩))).toList==((qf l)).toList))) (fun a2=>?_) fun a2=>?_
     ·have aS:=a2;refine yd (uL 8 28) [] .z ?_;have d:=qs (l:=qQ ⟨r.evs.length,qN U⟩) (qj (qo (by dsimp only;omega)) heB) g;refine yDe (fun a ha=>I true _ ⟨fun _=>qbg fun hh=>absurd hh.1 (of_decide_eq_false (d.symm.trans aS)),fun e=>(by cases e),h.take 8⟩ a (ha.kp [0,8,103]))
     have an:=a2;refine yd (uL 8 8) [] (.l (h.c 0 2) .z)<|yv [83] (rL 0 ((r.keys.length:Nat):Int)) (fun a3=>?_) fun a3=>?_
     ·have bo:=a3;obtain⟨kb,rfl⟩:=M (by omega);refine yd (uL 16 20) [] (.l (h.c 0 2) (.l (h.c 0 2) (.q6 (((r.keys.length:Nat):Int)-1) (.i (((r.keys.length:Nat):Int)-1) (r.keys.length) (.l (h.kya 2 (((r.keys.length:Nat):Int)-1) (r.keys.length-1) (hq:=(show(r.keys.length-1)<r.keys.length by omega))) (.l (h.c 7 0) .z)))))) ?_;have d:=qs (l:=qQ ⟨r.evs.length,qN U⟩) (qj (qo (by dsimp only;omega)) heB) g;refine yDe (fun a ha=>I (((((gky r.keys (r.keys.length-1)).after:Nat):Int):Int)==((r.evs.length:Nat):Int)) _ ⟨fun e=>qbg fun hh=>hh.2 ⟨by omega,by have:=beq_iff_eq.1 e;omega⟩,fun e=>⟨of_decide_eq_true (d.symm.trans an),fun hh=>(beq_eq_false_iff_ne.1 e) (by have:=hh.2;omega)⟩,h.take 8⟩ a (ha.kp [0,8,103]))
     have bp:=a3;refine yd (uL 16 20) [] .z ?_;have d:=qs (l:=qQ ⟨r.evs.length,qN U⟩) (qj (qo (by dsimp only;omega)) heB) g;refine yDe (fun a ha=>I false _ ⟨fun e=>(by cases e),fun _=>⟨of_decide_eq_true (d.symm.trans an),fun hh=>absurd hh.1 (by omega)⟩,h.take 8⟩ a (ha.kp [0,8,103]))
    refine qF 5 _ (by kernel_rfl) rfl (qp (some ⟨D,(if c=(1:Int).toNat then p else p+(1:Int).toNat*1),none⟩) (m-(1:Int).toNat) (c-(1:Int).toNat) l (some 73) (by kernel_rfl) (qiZ (hr.ch h.ch (fun ad e=>by cases e;exact hD)) (by omega)) (by omega) ?_);refine zH h<|yK 1 (yC (qcT ⟨r.evs.length,qN U⟩ (s.map at0) C E _ (h.ownRd' 6) N L (by have:=N;omega) (by dsimp only;omega)) ?_);rintro _ u ⟨aT,ao,aU,rfl,aV⟩;refine⟨_,rfl,?_⟩;have h:=h.join aV;have aW:(qQ ⟨r.evs.length,qN U⟩).length=ao:=by have:=h.len1 8;rwa[List.length_map]at this
    refine q8<|yK 2 (qp (aT.map at0) ao aU (qQ ⟨r.evs.length,qN U⟩) (some 70) (by kernel_rfl) (h.ownRd' 8) aW ?_);refine q8<|yd [6,7] [] .z<|yv [75] (rN (rY (((qf (qQ ⟨r.evs.length,qN U⟩))).toList==((qf l)).toList))) (fun a4=>?_) fun a4=>?_
    ·have aX:=a4;refine yd (uL 8 28) [] .z ?_;have d:=qs (l:=qQ ⟨r.evs.length,qN U⟩) (qj (qo (by dsimp only;omega)) heB) g;refine yDe (fun a ha=>I true _ ⟨fun _=>qbg fun hh=>absurd hh.1 (of_decide_eq_false (d.symm.trans aX)),fun e=>(by cases e),h.take 8⟩ a (ha.kp [0,8,103]))
    have ap:=a4;refine yd (uL 8 8) [] (.l (h.c 0 2) .z)<|yv [83] (rL 0 ((r.keys.length:Nat):Int)) (fun a5=>?_) fun a5=>?_
    ·have bq:=a5;obtain⟨kb,rfl⟩:=M (by omega);refine yd (uL 16 20) [] (.l (h.c 0 2) (.l (h.c 0 2) (.q6 (((r.keys.length:Nat):Int)-1) (.i (((r.keys.length:Nat):Int)-1) (r.keys.length) (.l (h.kya 2 (((r.keys.length:Nat):Int)-1) (r.keys.length-1) (hq:=(show(r.keys.length-1)<r.keys.length by omega))) (.l (h.c 7 0) .z)))))) ?_;have d:=qs (l:=qQ ⟨r.evs.length,qN U⟩) (qj (qo (by dsimp only;omega)) heB) g;refine yDe (fun a ha=>I (((((gky r.keys (r.keys.length-1)).after:Nat):Int):Int)==((r.evs.length:Nat):Int)) _ ⟨fun e=>qbg fun hh=>hh.2 ⟨by omega,by have:=beq_iff_eq.1 e;omega⟩,fun e=>⟨of_decide_eq_true (d.symm.trans ap),fun hh=>(beq_eq_false_iff_ne.1 e) (by have:=hh.2;omega)⟩,h.take 8⟩ a (ha.kp [0,8,103]))
    have br:=a5;refine yd (uL 16 20) [] .z ?_;have d:=qs (l:=qQ ⟨r.evs.length,qN U⟩) (qj (qo (by dsimp only;omega)) heB) g;refine yDe (fun a ha=>I false _ ⟨fun e=>(by cases e),fun _=>⟨of_decide_eq_true (d.symm.trans ap),fun hh=>absurd hh.1 (by omega)⟩,h.take 8⟩ a (ha.kp [0,8,103]))
   obtain⟨a6,O,h⟩:=h;refine yc (rY gs) (fun a7=>?_) fun a7=>?_
   ·have aY:=a7;refine yx 1<|q9 (rS (rB (rS (yR1 (.bool false) ?_))));rw[a6 aY];exact⟨rfl,(Sep.scan (start:=r.start) (evs:=r.evs) (keys:=r.keys) kx (h.ord [0,1,2,3,5]).eqv rfl rfl rfl rfl B).finS hg 0⟩
   have aq:=a7;refine yk<|ys<|zDC [8,12] [0,1,3,4,5,6,7] h fun u h=>ydF (uL 0 7) [] h.on (fun u h=>(.l (h.c 0 2) (.a (h.cs 7 0 2) .z)))<|yH 7 (zB [iX ((r.evs.length:Nat):Int),.slice (s.map at0) C E] 51 1 h fun u bs h=>?_);refine zHa h<|yK 8 (zA 2 32 1 1 (r.keys.length+1) (qaL (kxS kx r.keys.length (s.map at0,C,E)) (r.keys++[⟨r.evs.length,qN U⟩]) 0) h (Rd.all (h.b 8)) rfl (hz:=qft (k:=⟨r.evs.length,qN U⟩) (v:=(s.map at0,C,E))) fun u aZ b0 h bt=>?_);refine q8<|yd (uL 9 3) [] .z<|yK 12 (zs h 0 fun u h=>?_);refine q8<|yDe (nS ?_);refine yx 1<|q9 (rB (rS (yR1 (.bool true) ?_)));rw[qkq (O aq).1 (O aq).2];have h:=h.toRo 3 6 (s.map at0) (qN U) fun hO=>⟨hO.rd,fun ad e=>by cases hq:s with|none=>rw[hq]at e;cases e|some q=>rw[hq]at e;obtain rfl:=zi e;rfl⟩
   exact⟨rfl,(Sep.scan (start:=r.start) (evs:=r.evs) (keys:=r.keys++[⟨r.evs.length,qN U⟩]) (eo:=eo) (ec:=ec) (t:=t) (m:=r.keys.length+1) (ko:=aZ) (kc:=b0) (kxS kx r.keys.length (s.map at0,C,E)) (h.ord [0,1,2,3,5]).eqv rfl (by simp) rfl (qiW (x:=⟨sa,sn,sc,eo,ec,ko,kc,kx,t⟩) (r:=r) (k:=⟨r.evs.length,qN U⟩) (v:=(s.map at0,C,E)) rfl rfl rfl rfl) (qgY B ⟨rfl,rfl,rfl⟩ rfl rfl rfl N L ⟨by have:=hen.1;dsimp only;omega,by rw[List.length_append];exact hen.2⟩)).finS hg 0⟩
  refine qF 12 _ (by kernel_rfl) rfl (zN [iX 0,nX] 51 h fun u ar h=>?_);refine zHa h<|yH 10 (yC (h.encT 5 heo) ?_);rintro _ u ⟨A,G,H,rfl,h⟩;refine⟨_,rfl,?_⟩;have Q:(qN U).length=G:=by have:=h.len1 7;rwa[List.length_map]at this
  have L:A.map at0=none->H=0:=by intro e;cases hq:A with|none=>exact((h.own 7).2.2.2.1 hq).2|some q=>rw[hq]at e;cases e
  refine zHa h<|ydF [11] [] h.on (fun u h=> .z)<|yK 13 (zs h 6 fun u h=>?_);refine q8<|yDe (nS ?_);refine ys ?_;have h:=h.nrm 6 [iX ((r.evs.length:Nat):Int),.slice (A.map at0) G H];refine qhy (σ:=Bool) (fun gs=>[(0,pX b),(8,pX ar),(103,.bool gs)]) (fun gs u=>(gs=true->qb5 ⟨r,U⟩ (75::l)=none)/\(gs=false->qQ ⟨r.evs.length,qN U⟩=l/\ ¬(0<r.keys.length/\(gky r.keys (r.keys.length-1)).after=r.evs.length))/\Sep w F u [qbr b [.slice sa sn sc,.slice (eo.map at0) r.evs.length ec,.slice (ko.map at0) r.keys.length kc,pX t] 104,qaz tEv 5 eo r.evs.length ec (evsV r.evs),qaz qgS 2 ko r.keys.length kc (qaL kx r.keys 0),roA (roL ⟨sa,sn,sc,eo,ec,ko,kc,kx,t⟩ r),qdT (ScOk ⟨sa,sn,sc,eo,ec,ko,kc,kx,t⟩ r),qav t U,qbr ar [iX ((r.evs.length:Nat):Int),.slice (A.map at0) G H] 51,qaz tU8 1 A G H (u8s (qN U))]) (fun bu J=>?_) (fun gs u h=>?_)
  ·refine zDC [1,2] [0,1,2,3,4,5,6,7] h fun u h=>ydF [0,3] [] h.on (fun u h=>(.a (h.cs 6 0 2) .z))<|ydT [4] [] h.on (fun _=>(.j 1 (m) .z))<|qa4 1 5 (by kernel_rfl) (by decide) ?_ ?_
   ·refine qar 1 _ (by kernel_rfl) rfl (yC (qcT ⟨r.evs.length,qN U⟩ (A.map at0) G H _ (h.ownRd' 7) Q L (by have:=Q;omega) (by dsimp only;omega)) ?_);rintro _ u ⟨au,a8,av,rfl,b1⟩;refine⟨_,rfl,?_⟩;have h:=h.join b1;have aw:(qQ ⟨r.evs.length,qN U⟩).length=a8:=by have:=h.len1 8;rwa[List.length_map]at this
    refine zK (is:=[0,1,2,3,4,5,6,7]) h<|qa4 2 5 (by kernel_rfl) (by decide) ?_ ?_
    ·refine qar 2 _ (by kernel_rfl) rfl (qp (au.map at0) a8 av (qQ ⟨r.evs.length,qN U⟩) (some 70) (by kernel_rfl) (h.ownRd' 8) aw ?_);refine zK (is:=[0,1,2,3,4,5,6,7]) h<|yH 5 (qp (some ⟨D,(if c=(1:Int).toNat then p else p+(1:Int).toNat*1),none⟩) (m-(1:Int).toNat) (c-(1:Int).toNat) l (some 73) (by kernel_rfl) (qiZ (hr.ch h.ch (fun ad e=>by cases e;exact hD)) (by omega)) (by omega) ?_);refine zH h<|ydF [6,7] [] h.on (fun u h=> .z)<|yv [75] (rN (rY (((qf (qQ ⟨r.evs.length,qN U⟩))).toList==((qf l)).toList))) (fun a9=>?_) fun a9=>?_
     ·have b2:=a9;refine ydF (uL 8 28) [] h.on (fun u h=> .z) ?_;have d:=qs (l:=qQ ⟨r.evs.length,qN U⟩) (qj (qo (by dsimp only;omega)) heB) g;refine yDe (fun a ha=>J true _ ⟨fun _=>qbg fun hh=>absurd hh.1 (of_decide_eq_false (d.symm.trans b2)),fun e=>(by cases e),h.take 8⟩ a (ha.kp [0,8,103]))
     have ax:=a9;refine ydF (uL 8 8) [] h.on (fun u h=>(.l (h.c 0 2) .z))<|yv [83] (rL 0 ((r.keys.length:Nat):Int)) (fun aa=>?_) fun aa=>?_
     ·have bv:=aa;obtain⟨kb,rfl⟩:=M (by omega);refine ydF (uL 16 20) [] h.on (fun u h=>(.l (h.c 0 2) (.l (h.c 0 2) (.q6 (((r.keys.length:Nat):Int)-1) (.i (((r.keys.length:Nat):Int)-1) (r.keys.length) (.l (h.kya 2 (((r.keys.length:Nat):Int)-1) (r.keys.length-1) (hq:=(show(r.keys.length-1)<r.keys.length by omega))) (.l (h.c 6 0) .z))))))) ?_;have d:=qs (l:=qQ ⟨r.evs.length,qN U⟩) (qj (qo (by dsimp only;omega)) heB) g;refine yDe (fun a ha=>J (((((gky r.keys (r.keys.length-1)).after:Nat):Int):Int)==((r.evs.length:Nat):Int)) _ ⟨fun e=>qbg fun hh=>hh.2 ⟨by omega,by have:=beq_iff_eq.1 e;omega⟩,fun e=>⟨of_decide_eq_true (d.symm.trans ax),fun hh=>(beq_eq_false_iff_ne.1 e) (by have:=hh.2;omega)⟩,h.take 8⟩ a (ha.kp [0,8,103]))
     have bw:=aa;refine ydF (uL 16 20) [] h.on (fun u h=> .z) ?_;have d:=qs (l:=qQ ⟨r.evs.length,qN U⟩) (qj (qo (by dsimp only;omega)) heB) g;refine yDe (fun a ha=>J false _ ⟨fun e=>(by cases e),fun _=>⟨of_decide_eq_true (d.symm.trans ax),fun hh=>absurd hh.1 (by omega)⟩,h.take 8⟩ a (ha.kp [0,8,103]))
    refine qF 5 _ (by kernel_rfl) rfl (qp (some ⟨D,(if c=(1:Int).toNat then p else p+(1:Int).toNat*1),none⟩) (m-(1:Int).toNat) (c-(1:Int).toNat) l (some 73) (by kernel_rfl) (qiZ (hr.ch h.ch (fun ad e=>by cases e;exact hD)) (by omega)) (by omega) ?_);refine zH h<|yK 2 (qp (au.map at0) a8 av (qQ ⟨r.evs.length,qN U⟩) (some 70) (by kernel_rfl) (h.ownRd' 8) aw ?_);refine q8<|yd [6,7] [] .z<|yv [75] (rN (rY (((qf (qQ ⟨r.evs.length,qN U⟩))).toList==((qf l)).toList))) (fun ab=>?_) fun ab=>?_
    ·have b3:=ab;refine yd (uL 8 28) [] .z ?_;have d:=qs (l:=qQ ⟨r.evs.length,qN U⟩) (qj (qo (by dsimp only;omega)) heB) g;refine yDe (fun a ha=>J true _ ⟨fun _=>qbg fun hh=>absurd hh.1 (of_decide_eq_false (d.symm.trans b3)),fun e=>(by cases e),h.take 8⟩ a (ha.kp [0,8,103]))
    have ay:=ab;refine yd (uL 8 8) [] (.l (h.c 0 2) .z)<|yv [83] (rL 0 ((r.keys.length:Nat):Int)) (fun ac=>?_) fun ac=>?_
    ·have bx:=ac;obtain⟨kb,rfl⟩:=M (by omega);refine yd (uL 16 20) [] (.l (h.c 0 2) (.l (h.c 0 2) (.q6 (((r.keys.length:Nat):Int)-1) (.i (((r.keys.length:Nat):Int)-1) (r.keys.length) (.l (h.kya 2 (((r.keys.length:Nat):Int)-1) (r.keys.length-1) (hq:=(show(r.keys.length-1)<r.keys.length by omega))) (.l (h.c 6 0) .z)))))) ?_;have d:=qs (l:=qQ ⟨r.evs.length,qN U⟩) (qj (qo (by dsimp only;omega)) heB) g;refine yDe (fun a ha=>J (((((gky r.keys (r.keys.length-1)).after:Nat):Int):Int)==((r.evs.length:Nat):Int)) _ ⟨fun e=>qbg fun hh=>hh.2 ⟨by omega,by have:=beq_iff_eq.1 e;omega⟩,fun e=>⟨of_decide_eq_true (d.symm.trans ay),fun hh=>(beq_eq_false_iff_ne.1 e) (by have:=hh.2;omega)⟩,h.take 8⟩ a (ha.kp [0,8,103]))
    have bz:=ac;refine yd (uL 16 20) [] .z ?_;have d:=qs (l:=qQ ⟨r.evs.length,qN U⟩) (qj (qo (by dsimp only;omega)) heB) g;refine yDe (fun a ha=>J false _ ⟨fun e=>(by cases e),fun _=>⟨of_decide_eq_true (d.symm.trans ay),fun hh=>absurd hh.1 (by omega)⟩,h.take 8⟩ a (ha.kp [0,8,103]))
   refine qF 5 _ (by kernel_rfl) rfl (qp (some ⟨D,(if c=(1:Int).toNat then p else p+(1:Int).toNat*1),none⟩) (m-(1:Int).toNat) (c-(1:Int).toNat) l (some 73) (by kernel_rfl) (qiZ (hr.ch h.ch (fun ad e=>by cases e;exact hD)) (by omega)) (by omega) ?_);refine zH h<|yK 1 (yC (qcT ⟨r.evs.length,qN U⟩ (A.map at0) G H _ (h.ownRd' 7) Q L (by have:=Q;omega) (by dsimp only;omega)) ?_);rintro _ u ⟨b4,az,b5,rfl,b6⟩;refine⟨_,rfl,?_⟩;have h:=h.join b6;have b7:(qQ ⟨r.evs.length,qN U⟩).length=az:=by have:=h.len1 8;rwa[List.length_map]at this
   refine q8<|yK 2 (qp (b4.map at0) az b5 (qQ ⟨r.evs.length,qN U⟩) (some 70) (by kernel_rfl) (h.ownRd' 8) b7 ?_);refine q8<|yd [6,7] [] .z<|yv [75] (rN (rY (((qf (qQ ⟨r.evs.length,qN U⟩))).toList==((qf l)).toList))) (fun ae=>?_) fun ae=>?_
   ·have b8:=ae;refine yd (uL 8 28) [] .z ?_;have d:=qs (l:=qQ ⟨r.evs.length,qN U⟩) (qj (qo (by dsimp only;omega)) heB) g;refine yDe (fun a ha=>J true _ ⟨fun _=>qbg fun hh=>absurd hh.1 (of_decide_eq_false (d.symm.trans b8)),fun e=>(by cases e),h.take 8⟩ a (ha.kp [0,8,103]))
   have aA:=ae;refine yd (uL 8 8) [] (.l (h.c 0 2) .z)<|yv [83] (rL 0 ((r.keys.length:Nat):Int)) (fun af=>?_) fun af=>?_
   ·have bA:=af;obtain⟨kb,rfl⟩:=M (by omega);refine yd (uL 16 20) [] (.l (h.c 0 2) (.l (h.c 0 2) (.q6 (((r.keys.length:Nat):Int)-1) (.i (((r.keys.length:Nat):Int)-1) (r.keys.length) (.l (h.kya 2 (((r.keys.length:Nat):Int)-1) (r.keys.length-1) (hq:=(show(r.keys.length-1)<r.keys.length by omega))) (.l (h.c 6 0) .z)))))) ?_;have d:=qs (l:=qQ ⟨r.evs.length,qN U⟩) (qj (qo (by dsimp only;omega)) heB) g;refine yDe (fun a ha=>J (((((gky r.keys (r.keys.length-1)).after:Nat):Int):Int)==((r.evs.length:Nat):Int)) _ ⟨fun e=>qbg fun hh=>hh.2 ⟨by omega,by have:=beq_iff_eq.1 e;omega⟩,fun e=>⟨of_decide_eq_true (d.symm.trans aA),fun hh=>(beq_eq_false_iff_ne.1 e) (by have:=hh.2;omega)⟩,h.take 8⟩ a (ha.kp [0,8,103]))
   have bB:=af;refine yd (uL 16 20) [] .z ?_;have d:=qs (l:=qQ ⟨r.evs.length,qN U⟩) (qj (qo (by dsimp only;omega)) heB) g;refine yDe (fun a ha=>J false _ ⟨fun e=>(by cases e),fun _=>⟨of_decide_eq_true (d.symm.trans aA),fun hh=>absurd hh.1 (by omega)⟩,h.take 8⟩ a (ha.kp [0,8,103]))
  obtain⟨a6,O,h⟩:=h;refine yc (rY gs) (fun ag=>?_) fun ag=>?_
  ·have b9:=ag;refine yx 1<|q9 (rS (rB (rS (yR1 (.bool false) ?_))));rw[a6 b9];exact⟨rfl,(Sep.scan (start:=r.start) (evs:=r.evs) (keys:=r.keys) kx (h.ord [0,1,2,3,5]).eqv rfl rfl rfl rfl B).finS hg 0⟩
  have aB:=ag;refine yk<|ys<|zDC [8,12] [0,1,3,4,5,6,7] h fun u h=>ydF (uL 0 7) [] h.on (fun u h=>(.l (h.c 0 2) (.a (h.cs 6 0 2) .z)))<|yH 7 (zB [iX ((r.evs.length:Nat):Int),.slice (A.map at0) G H] 51 1 h fun u bC h=>?_);refine zHa h<|yK 8 (zA 2 32 1 1 (r.keys.length+1) (qaL (kxS kx r.keys.length (A.map at0,G,H)) (r.keys++[⟨r.evs.length,qN U⟩]) 0) h (Rd.all (h.b 8)) rfl (hz:=qft (k:=⟨r.evs.length,qN U⟩) (v:=(A.map at0,G,H))) fun u ba bb h bD=>?_);refine q8<|yd (uL 9 3) [] .z<|yK 12 (zs h 0 fun u h=>?_);refine q8<|yDe (nS ?_);refine yx 1<|q9 (rB (rS (yR1 (.bool true) ?_)));rw[qkq (O aB).1 (O aB).2];have h:=h.toRo 3 7 (A.map at0) (qN U) fun hO=>⟨hO.rd,fun ad e=>by cases hq:A with|none=>rw[hq]at e;cases e|some q=>rw[hq]at e;obtain rfl:=zi e;rfl⟩
  exact⟨rfl,(Sep.scan (start:=r.start) (evs:=r.evs) (keys:=r.keys++[⟨r.evs.length,qN U⟩]) (eo:=eo) (ec:=ec) (t:=t) (m:=r.keys.length+1) (ko:=ba) (kc:=bb) (kxS kx r.keys.length (A.map at0,G,H)) (h.ord [0,1,2,3,5]).eqv rfl (by simp) rfl (qiW (x:=⟨sa,sn,sc,eo,ec,ko,kc,kx,t⟩) (r:=r) (k:=⟨r.evs.length,qN U⟩) (v:=(A.map at0,G,H)) rfl rfl rfl rfl) (qgY B ⟨rfl,rfl,rfl⟩ rfl rfl rfl Q L ⟨by have:=hen.1;dsimp only;omega,by rw[List.length_append];exact hen.2⟩)).finS hg 0⟩
 have bc:=Y;refine qk (nB (nS ?_));refine yx 1<|q9 (yR1 (.bool false) ?_);rw[qmk aO bc];exact⟨rfl,(Sep.scan (start:=r.start) (evs:=r.evs) (keys:=r.keys) kx (h.ord [0,1,2,3,5]).eqv rfl rfl rfl rfl B).finS hg 0⟩
theorem qlg {l:List Cel}(hw:qb1 l=true)(hc:∀c∈l,cOk c):okC l:=by
 refine⟨fun c hm=>?_,hw⟩
 obtain⟨i,hi,rfl⟩:=List.mem_iff_getElem.1 hm
 refine⟨(hc _ hm).1,?_⟩
 obtain⟨_,h2⟩:=wholeB_iff.1 hw i hi
 rw[qd9 hi]at h2
 by_cases h0:(l[i]).rune=0
 ·exact .inl h0
 ·have:=(h2 h0).1
  unfold qkA at this
  rw[Bool.and_eq_true]at this
  exact .inr this.1
theorem qkv {T:TS}(h:DecOk T):Okt true T.grid.w T.grid.h T:=by
 have hw:=h.w
 have hh:=h.h
 refine⟨⟨hw,hh,⟨rfl,rfl⟩,h.o,⟨h.c.x,h.c.y⟩,⟨h.s.x,h.s.y⟩,⟨h.a.x,h.a.y⟩,h.t,h.k.1,h.r⟩,⟨fun l hl=>qlg (h.g.2 l hl).2.1 (h.g.2 l hl).2.2,h.g.1,fun l hl=>by have:=(h.g.2 l hl).1;omega⟩,⟨fun l hl=>qlg (h.g2.2 l hl).2.1 (h.g2.2 l hl).2.2,by rw[h.g2.1,h.o.2],fun l hl=>by have:=(h.g2.2 l hl).1;rw[h.o.1];omega⟩,fun l hl=>?_,h.c.s,fun _=>h.c.l,h.s.s,h.s.l,h.a.s,h.a.l,h.ti⟩
 obtain⟨h1,h2,h3,h4⟩:=h.k.2 l hl
 exact⟨qlg h3 h4,fun e=>by rw[e]at h1;simp at h1,h2⟩
theorem qpO {s:ByteArray}(h:zb s=true):s=ByteArray.empty:=qhI h
theorem qpP {c:Int}(h:qk5 c=true):lowM c:=by
 unfold qk5 at h
 rw[Bool.and_eq_true,decide_eq_true_eq,decide_eq_true_eq]at h
 exact h
theorem wideM_of {c:Int}(h:qbQ c=true):wideM c:=by
 unfold qbQ at h
 rw[Bool.or_eq_true,Bool.and_eq_true,decide_eq_true_eq,decide_eq_true_eq]at h
 exact h.elim (fun h=> .inl (qpP h)) .inr
theorem bare_eq {u:US}(h:qcP u=true):u=u0:=by
 unfold qcP at h
 simp only[Bool.and_eq_true,beq_iff_eq]at h
 obtain⟨⟨⟨h1,h2⟩,h3⟩,h4⟩:=h
 cases u
 dsimp only at h1 h2 h3 h4
 subst h1 h2 h3 h4
 rfl
theorem uR_of {u:US}(h:utB u=true):uR u:=by
 unfold utB at h
 simp only[Bool.and_eq_true,decide_eq_true_eq,Bool.or_eq_true,beq_iff_eq,Bool.not_eq_true']at h
 obtain⟨⟨⟨h1,h2⟩,h3⟩,h4⟩:=h
 obtain⟨a,b,c,n⟩:=u
 dsimp only at*
 have hn:n=0\/n=1\/n=2\/n=3:=by omega
 rcases hn with rfl|rfl|rfl|rfl<;>simp_all<;>exact⟨⟨by dsimp only;omega,by dsimp only;omega⟩,fun h=>by first|(exfalso;omega)|omega|simp_all,fun h=>by first|(exfalso;omega)|omega|simp_all,fun h=>by first|(exfalso;omega)|omega|simp_all,by first|exact .inl rfl|exact .inr h4⟩
theorem qpQ {n:Nat}{f:Nat->Bool}(h:(List.range n).all f=true):∀i,i<n->f i=true:=fun i hi=>List.all_eq_true.1 h i (List.mem_range.2 hi)
theorem qpR {p:PS}(h:ParsOk p):PRight p:=by
 have hst:=h.st
 have hr:=h.r
 unfold qG at hr
 by_cases h0:(p.state≠7/\p.within≠0)\/(p.state≠0/\qcP p.utf=false)
 ·rw[if_pos h0]at hr;cases hr
 rw[if_neg h0]at hr
 have hwi:p.state≠7->p.within=0:=fun e=>Classical.byContradiction fun h1=>h0 (.inl ⟨e,h1⟩)
 have hu:p.state≠0->p.utf=u0:=fun e=>bare_eq (Classical.byContradiction fun h1=>h0 (.inr ⟨e,by simpa using h1⟩))
 have hunm:qgG p=true->p.marks=ByteArray.empty/\p.params=[]:=fun e=>by
  unfold qgG at e
  rw[Bool.and_eq_true,beq_iff_eq]at e
  exact⟨qpO e.1,List.eq_nil_of_length_eq_zero e.2⟩
 have hte:qdt p.text=true->allB (fun c=>32<=c) p.text:=fun e i hi=>by
  unfold qdt at e
  rw[Bool.and_eq_true]at e
  exact of_decide_eq_true (qpQ e.1 i hi)
 have hz:p.text=ByteArray.empty->allB (fun c=>32<=c) p.text:=fun e=>by rw[e];exact qg5 _
 by_cases s0:p.state=0
 ·rw[if_pos s0,Bool.and_eq_true,Bool.and_eq_true]at hr
  obtain⟨⟨r1,r2⟩,r3⟩:=hr
  have q:=hunm r2
  have z:=qpO r3
  exact⟨by omega,hwi,fun e=>by omega,hu,uR_of r1,fun _ _ _=>q.1,fun _ _=>q.2,fun _=>z,fun e=>by omega,fun e=>by omega,hz z⟩
 have u':uR p.utf:=by rw[hu s0];exact uR0
 rw[if_neg s0]at hr
 by_cases s1:p.state=1
 ·rw[if_pos s1,Bool.and_eq_true]at hr
  have q:=hunm hr.1
  have z:=qpO hr.2
  exact⟨by omega,hwi,fun e=>by omega,hu,u',fun _ _ _=>q.1,fun _ _=>q.2,fun _=>z,fun e=>by omega,fun e=>by omega,hz z⟩
 rw[if_neg s1]at hr
 by_cases s2:p.state=2
 ·rw[if_pos s2,Bool.and_eq_true,Bool.and_eq_true,beq_iff_eq]at hr
  obtain⟨⟨r1,r2⟩,r3⟩:=hr
  have z:=qpO r3
  unfold qbe at r1
  rw[Bool.and_eq_true,Bool.and_eq_true,decide_eq_true_eq]at r1
  exact⟨by omega,hwi,fun e=>by omega,hu,u',fun e=>absurd s2 e,fun _ _=>List.eq_nil_of_length_eq_zero r2,fun _=>z,fun _=>⟨r1.1.1,fun i hi=>qpP (qpQ r1.2 i hi)⟩,fun e=>by omega,hz z⟩
 rw[if_neg s2]at hr
 by_cases s3:p.state=3\/p.state=4
 ·rw[if_pos s3,Bool.and_eq_true,Bool.and_eq_true]at hr
  obtain⟨⟨r1,r2⟩,r3⟩:=hr
  have z:=qpO r3
  unfold qbe at r1
  rw[Bool.and_eq_true]at r1
  exact⟨by omega,hwi,fun e=>by omega,hu,u',fun _ e3 e4=>by omega,fun e3 e4=>by omega,fun _=>z,fun e=>by omega,fun _ i hi=>wideM_of (qpQ r1.2 i hi),hz z⟩
 rw[if_neg s3]at hr
 by_cases s7:p.state=7
 ·rw[if_pos s7]at hr
  by_cases w5:p.within≠5/\p.within≠6
  ·rw[if_pos w5]at hr;cases hr
  rw[if_neg w5,Bool.and_eq_true]at hr
  have q:=hunm hr.1
  exact⟨by omega,hwi,fun _=>by omega,hu,u',fun _ _ _=>q.1,fun _ _=>q.2,fun e=>by omega,fun e=>by omega,fun e=>by omega,hte hr.2⟩
 rw[if_neg s7,if_pos (by omega),Bool.and_eq_true]at hr
 have q:=hunm hr.1
 exact⟨by omega,hwi,fun e=>by omega,hu,u',fun _ _ _=>q.1,fun _ _=>q.2,fun e=>by omega,fun e=>by omega,fun e=>by omega,hte hr.2⟩
theorem qpS {T:TS}(h:DecOk T):OkS T:=by
 have hp:=h.p
 exact⟨⟨_,_,qkv h⟩,qpR hp,⟨⟨_,_,(qkv h).lim⟩,⟨hp.u,hp.m,hp.t,hp.n,hp.b⟩⟩⟩
theorem dec_oks:∀(bs:List Int) (T:TS),qaA bs->qlZ (some bs)=some T->OkS T:=fun bs T hb hd=>by
 obtain⟨ys,e1,e2,hD⟩:=qk7 (s:=some bs) (fun zs e=>by obtain rfl:=Option.some.inj e;exact hb) hd
 exact qpS hD
structure DecW (dec:List Int->Option TS):Prop where
 no:∀q,qaA q->qlZ (some q)=none->dec q=none
 yes:∀q T,qaA q->qlZ (some q)=some T-> ∃T',dec q=some T'/\OkS T'/\ ∀{w:World} {t:Nat} {F:Nat->Prop},TermAt w t T F->TermAt w t T' F
def qpT (T0:TS)(b:List Int):Option TS:=if b=qN T0 then some T0 else qlZ (some b)
theorem qpU (T0:TS):qpT T0 (qN T0)=some T0:=if_pos rfl
theorem qpV {T0:TS}(h:OkS T0):DecW (qpT T0):=by
 refine⟨fun q hb hq=>?_,fun q T hb hq=>?_⟩
 ·unfold qpT
  rw[if_neg,hq]
  rintro rfl
  rw[qkc h.dec]at hq
  cases hq
 ·unfold qpT
  split
  ·rename_i e
   subst e
   rw[qkc h.dec]at hq
   obtain rfl:=Option.some.inj hq
   exact⟨T0,rfl,h,fun h=>h.back⟩
  ·exact⟨T,hq,dec_oks q T hb hq,fun h=>h⟩
theorem OkS.ap {T:TS}(h:OkS T){e:Ev}(hB:evB e=true):OkS (qU T e):=by
 have b:=(qgI hB).2;unfold qU;split
 ·have:=h.doN [⟨e.data,0,0⟩] 1;exact this
 split
 ·have:=h.doN [⟨e.data,e.w,e.h⟩] 1;have a:X.doN T [⟨e.data,e.w,e.h⟩] 1=qcz T e.w e.h:=by
   show doT T ⟨e.data,e.w,e.h⟩=_;exact if_neg (by dsimp only;omega)
  rw[a]at this;exact this
 exact h
theorem take_inv {s s':Sc}{f:List Int}(h:qb5 s f=some s')(hO:OkS s.T)(hl:0<=qae s.r.evs/\qae s.r.evs<=4611686018427387904):OkS s'.T/\0<=qae s'.r.evs/\qae s'.r.evs<=4611686018427387904:=by
 unfold qb5 at h;split at h
 ·cases h
 split at h
 ·unfold qiS at h;split at h
  ·rename_i e he;have hb:=qmn he;obtain rfl:=zi h;refine⟨hO.ap hb,?_⟩;have:qae (s.r.evs++[e])=e.time:=by unfold qae qZ;rw[if_neg (by simp),List.length_append,List.length_singleton,Nat.add_sub_cancel,qiR]
   dsimp only;rw[this];have:=(qgI hb).1.1;omega
  cases h
 split at h
 ·unfold qpA at h;split at h
  ·obtain rfl:=zi h;exact⟨hO,hl⟩
  cases h
 cases h
section
variable {w0 w:World}{F0:Nat->Prop}{l:List Asn}
theorem Sep.takeS {b:Nat}{s:Sc}{o:Option Nat}{m c:Nat}{f:List Int}(h:Sep w0 F0 w l)(hg:Gz w0 F0)(hT:LT w0)(i j:Nat)(hO:OkS s.T)(hla:0<=qae s.r.evs/\qae s.r.evs<=4611686018427387904)(hen:s.r.evs.length+1<=10000000/\s.r.keys.length+1<=10000000)(hby:qaA f)(hij:i≠j)(hi:l[i]? =some (qe8 b s):=by rfl)(hj:l[j]? =some (qaz tU8 1 o m c (u8s f)):=by rfl)(hm:m<=100000000:=by omega):
    Calls Tryz.prog 82 [pX b,.slice (o.map at0) m c].toArray w fun e w'=>e= .returned (.bool (qb5 s f).isSome)/\Sep w0 F0 w' (l.set i (qe8 b ((qb5 s f).getD s))):=by
  have a:=h.own j hj;have hd:=hO.dec;have n:=h.lt hg hT;obtain⟨F,d,g,k⟩:=h.ex;have p:=h.gz hg (k i);refine(take_at1 b s.r s.T (F i) (o.map at0) m c f w (d i _ hi) p n hO.fine hd.enc (qcg hd) (qd1 hd) hla hen a.rd a.len1' a.2.1 ?_ hby hm ?_ ?_).mono fun e w' ⟨he,hA,hc⟩=>⟨he,h.upd hi F d g k hA hc⟩
  · cases o with
    |none=>exact .inl (a.2.2.2.1 rfl)
    |some q=>exact .inr ⟨q,0,rfl⟩
  · intro ad ha hF
    cases o with
    |none=>cases ha
    |some q=>
      obtain rfl:=zi ha;exact g i j hij q hF ((d j _ hj).2 q rfl)
  · intro ad ha
    cases o with
    |none=>cases ha
    |some q=>
      obtain rfl:=zi ha;exact a.lt
end
theorem rd_at1 {w:World}{D off cap n i:Nat}{l:List Int}(h:Rd w (some ⟨D,off,none⟩) (u8s l))(hl:l.length=n)(hle:n<=cap)(hi:i<=n):Rd w (some ⟨D,if cap=i then off else off+i*1,none⟩) (u8s (l.drop i)):=by
 split
 ·have:l.drop i=[]:=List.drop_eq_nil_of_le (by omega);rw[this];exact Rd.nil _ _
 exact ql7 h i
theorem qpW {dec:List Int->Option TS}(a:Option Addr)(n cap:Nat)(l:List Int)(w:World)(hT:LT w)(h7:gTop<=w.heap.size)(hr:Rd w a (u8s l))(hl:l.length=n)(hle:n<=cap)(hz:(n=0/\cap=0)\/ ∃b o,a=some ⟨b,o,none⟩)(hby:qaA l)(hn:n<=9000000)(hdk:DecW dec):Calls Tryz.prog 52 [.slice a n cap].toArray w fun e w'=> ∃v k,e= .returned (.tuple #[v,iX ((k:Nat):Int)])/\((qfr dec l=none/\v= .pointer none/\k=0/\Ch (fun _=>False) w w')\/ ∃b s,qfr dec l=some (s,k)/\v=pX b/\NewA (qe8 b s) w w'):=by
 have h:=Sep.nil w;refine yA Tryz.func52 rfl<|yx 2<|ysr<|yq 1<|yo (yC (qm8 a n cap l _ (hr.ch h.ch fun _ _ h=>h) hl hle hz hby (by omega)) ?_);rintro _ u ⟨o1,g,xs,k,rfl,hN,hO,hA⟩;refine⟨_,rfl,?_⟩;have h:=h.app0 hO hA;have J:qaA xs:=by have:=qkd hby;rw[hN]at this;exact this
 have E:=qm3 (l:=l);have F:=ql5 (l:=l);rw[hN]at E F;dsimp only at E F;refine yz 7<|ys<|ysr<|yq 3<|yw [18] (rE ((k:Nat):Int) 0) (fun K=>?_) fun K=>?_
 ·have af:=K;refine yz 13<|yct<|yx 2<|q9 (rS (yR2 [.pointer none,iX 0] .z ?_));exact⟨_,0,rfl,.inl ⟨qiX hN (.inl (by omega)),rfl,rfl,h.ch⟩⟩
 have ag:=K;refine yq 8<|yw [23] (rE ((xs.length:Nat):Int) 0) (fun L=>?_) fun L=>?_
 ·have ah:=L;refine yz 13<|yct<|yx 2<|q9 (rS (yR2 [.pointer none,iX 0] .z ?_));exact⟨_,0,rfl,.inl ⟨qiX hN (.inr (.inl (List.eq_nil_of_length_eq_zero (by omega)))),rfl,rfl,h.ch⟩⟩
 have X:=L;obtain⟨G,rfl⟩:=h.isO 0;obtain⟨B,q,rfl⟩:∃B q,xs=B::q:=by cases xs with|nil=>exact absurd (show(([]:List Int).length:Int)=0 from rfl) X|cons c q=>exact⟨c,q,rfl⟩
 have ai:(B::q).length=q.length+1:=rfl;have aj:(B::q).length<=g:=(h.own 0).2.1;have M:qaA q:=fun y hy=>J y (List.mem_cons_of_mem _ hy);refine yp 13 [] (.i 0 ((B::q).length) (.l (o:=0) (u8_at (h.brd 0) 0 (by omega)) .z))<|ye<|yc (rI ((B::q).getD 0 0) 83) (fun N=>?_) fun N=>?_
 ·have Y:=N;refine yx 2<|q9 (rS (yR2 [.pointer none,iX 0] .z ?_));exact⟨_,0,rfl,.inl ⟨qiX hN (.inr (.inr Y)),rfl,rfl,h.ch⟩⟩
 have Z:=N;obtain rfl:B=83:=Z;refine yk<|ysr<|yp 2 [] (.j 1 ((83::q).length) .z)<|yo (yC (qnq G (some ⟨G,(if g=(1:Int).toNat then 0 else 0+(1:Int).toNat*1),none⟩) ((83::q).length-(1:Int).toNat) (g-(1:Int).toNat) q _ _ (qat h.ch hT (fun _ h=>h.elim)) (Nat.le_trans h7 h.ch.size) (qiZ (h.brd 0) (by omega)) (by omega) (by omega) (.inr ⟨_,rfl⟩) M (by omega) (h.own 0).lt rfl) ?_);rintro _ u ⟨vd,xd,rfl,S,a0⟩;refine⟨_,rfl,?_⟩;rcases a0 with⟨x,rfl,rfl⟩|⟨t,T,x,rfl,rfl,a1⟩
 ·have h:=h.same S;have x:=hdk.no _ M x;refine yz 8<|ys<|yx 2<|yct<|yx 2<|q9 (rS (yR2 [.pointer none,iX 0] .z ?_));exact⟨_,0,rfl,.inl ⟨by rw[qgZ hN (by omega),show dec q=none from x],rfl,rfl,h.ch⟩⟩
 obtain⟨T,x,a2,a3⟩:=hdk.yes _ _ M x;have h:=h.newTm (a3 a1) S;refine yz 8<|ys<|yx 2<|ycf<|yk<|ysr<|yp 5 [] (.j 1 ((83::q).length) .z)<|yo (zN [.slice (some ⟨G,(if g=(1:Int).toNat then 0 else 0+(1:Int).toNat*1),none⟩) ((83::q).length-(1:Int).toNat) (g-(1:Int).toNat),nX,nX,pX t] 104 h fun u A h=>?_);refine yz 7<|qa ?_;obtain⟨h0,_⟩|⟨D,I,rfl⟩:=hz
 ·exfalso;omega
 have h:=h.own0 tEv 5;have h:=h.own0 qgS 2;have h:=h.ro0;have a4:=h.brd 0;have h:=h.toRo (o:=some G) 5 0 (some ⟨G,(if g=(1:Int).toNat then 0 else 0+(1:Int).toNat*1),none⟩) q (fun _=>⟨qiZ a4 (by omega),fun ad e=>by cases e;rfl⟩);have h:=Sep.scan (b:=A) (U:=T) (sa:=(some ⟨G,(if g=(1:Int).toNat then 0 else 0+(1:Int).toNat*1),none⟩)) (sn:=((83::q).length-(1:Int).toNat)) (sc:=(g-(1:Int).toNat)) (eo:=none) (ec:=0) (ko:=none) (kc:=0) (t:=t) (n:=0) (m:=0) (start:=q) (evs:=[]) (keys:=[]) (fun _=>(none,0,0)) (h.ord [2,3,4,5,1]).eqv rfl rfl rfl rfl ⟨by dsimp only;omega,(fun e=>by cases e),fun i hi=>absurd hi (Nat.not_lt_zero _),Nat.zero_le _,Nat.zero_le _⟩;refine qT [0,5,8] (f':=[(0,.slice (some ⟨D,I,none⟩) n cap),(5,iX ((k:Nat):Int)),(8,pX A)])<|qx (σ:=Sc×Nat×Nat) (fun⟨s,d,fu⟩=>[(0,.slice (some ⟨D,I,none⟩) n cap),(5,iX ((d:Nat):Int)),(8,pX A)]) (fun⟨s,d,fu⟩ u=>qfq fu s (l.drop d) d=qfq l.length ⟨⟨q,[],[]⟩,T⟩ (l.drop k) k/\d<=n/\n-d<fu/\OkS s.T/\(0<=qae s.r.evs/\qae s.r.evs<=4611686018427387904)/\(s.r.evs.length<=d/\s.r.keys.length<=d)/\Sep w (fun _=>False) u [qe8 A s]) (fun⟨s,d,fu⟩=>n-d) (⟨⟨q,[],[]⟩,T⟩,k,l.length) rfl ?_ ?_
 ·exact⟨rfl,by omega,by omega,a2,⟨Int.le_refl 0,(by decide:(0:Int)<=4611686018427387904)⟩,⟨Nat.zero_le _,Nat.zero_le _⟩,h.take 1⟩
 intro p u a5 al a6;obtain⟨s,d,fu⟩:=p;obtain⟨hF,a7,am,hO,V,an,h⟩:=a5;obtain⟨fu,rfl⟩:∃f,fu=f+1:=⟨fu-1,by omega⟩
 refine qa<|ysr<|yp 3 [] (.j ((d:Nat):Int) (n) .z)<|yo (yC (qm8 (some ⟨D,(if cap=(((d:Nat):Int):Int).toNat then I else I+(((d:Nat):Int):Int).toNat*1),none⟩) (n-(((d:Nat):Int):Int).toNat) (cap-(((d:Nat):Int):Int).toNat) (l.drop d) _ (rd_at1 (hr.ch h.ch fun _ _ h=>h) hl hle a7) (by rw[List.length_drop];omega) (by omega) (.inr ⟨_,_,rfl⟩) (qdp hby d) (by omega)) ?_);rintro _ u ⟨ao,ap,O,P,rfl,H,a8,a9⟩;refine⟨_,rfl,?_⟩;have h:=h.app0 a8 a9;have J:qaA O:=by have:=qkd (qdp hby d);rw[H]at this;exact this
 have E:=qm3 (l:=(l.drop d));have F:=ql5 (l:=(l.drop d));rw[H]at E F;dsimp only at E F;rw[List.length_drop]at E F;refine yz 9<|ys<|ysr<|yq 3<|yw [52] (rE ((P:Nat):Int) 0) (fun Q=>?_) fun Q=>?_
 ·have aq:=Q;refine yz 8<|yct<|yx 4<|q9 (rS (rB (qt (rB (yR2 [pX A,iX ((d:Nat):Int)] .z ?_)))));refine⟨_,d,rfl,.inr ⟨A,s,?_,rfl,h.finN 0⟩⟩;rw[qgZ hN (by omega),show dec q=some T from x];dsimp only;rw[<-hF,qkr H (.inl (by omega))]
 have ar:=Q;refine yq 5<|yo (yQ (h.takeS (gz0 h7) hT 0 1 hO V (by omega) J (by decide)) fun u h=>?_);refine yz 8<|yc (rN (rY (qb5 s O).isSome)) (fun R=>?_) fun R=>?_
 ·have aa:=R;have C:qb5 s O=none:=by simpa using aa
  rw[C]at h;refine yx 4<|q9 (rS (rB (qt (rB (yR2 [pX A,iX ((d:Nat):Int)] .z ?_)))));refine⟨_,d,rfl,.inr ⟨A,s,?_,rfl,h.finN 0⟩⟩;rw[qgZ hN (by omega),show dec q=some T from x];dsimp only;rw[<-hF,qkr H (.inr C)]
 have ab:=R;obtain⟨s2,C⟩:=Option.isSome_iff_exists.1 ab;rw[C]at h;have W:=take_inv C hO V;have au:=take_len C;refine yk<|q7<|yp 4 [] (.q6 (((d:Nat):Int)+((P:Nat):Int)) .z)<|yE (nB (fun a ha=>a6 (s2,d+P,fu) _ ⟨by rw[<-hF,readF_go H (by omega) C,List.drop_drop],by omega,by omega,W.1,W.2,by omega,h.take 1⟩ (by show n-(d+_)<n-d;omega) a (ha.kp [0,5,8])))
theorem qi2 {dec:List Int->Option TS}(a:Option Addr)(n cap:Nat)(l:List Int)(w:World)(hT:LT w)(h7:gTop<=w.heap.size)(hr:Rd w a (u8s l))(hl:l.length=n)(hle:n<=cap)(hz:(n=0/\cap=0)\/ ∃b o,a=some ⟨b,o,none⟩)(hby:qaA l)(hn:n<=9000000)(hdk:DecW dec):Calls Tryz.prog 21 [.slice a n cap].toArray w fun e w'=> ∃v k x,e= .returned (.tuple #[v,iX ((k:Nat):Int),iX x])/\((qfr dec l=none/\v= .pointer none/\k=0/\x=1/\Ch (fun _=>False) w w')\/ ∃b s,qfr dec l=some (s,k)/\v=pX b/\x=0/\NewA (qe8 b s) w w'):=by
 have h:=Sep.nil w;refine yA Tryz.func21 rfl<|yx 3<|ysr<|yq 1<|yo (yC (qpW a n cap l _ hT h7 hr hl hle hz hby hn hdk) ?_);rintro _ u ⟨vr,kr,rfl,d⟩;refine⟨_,rfl,?_⟩;rcases d with⟨c,rfl,rfl,f⟩|⟨b,s,c,rfl,g⟩
 ·have h:=h.same f;refine yz 7<|ys<|yx 2<|yct<|yx 3<|q9 (rS (yR2 [.pointer none,iX 0,iX 1] .z ?_));exact⟨_,0,1,rfl,.inl ⟨c,rfl,rfl,rfl,h.ch⟩⟩
 have h:=h.addN g;refine yz 7<|ys<|yx 2<|ycf<|yk<|yx 7<|q9 (yR2 [pX b,iX ((kr:Nat):Int),iX 0] .z ?_);exact⟨_,kr,0,rfl,.inr ⟨b,s,c,rfl,rfl,h.finN 0⟩⟩
theorem qlh {dec:List Int->Option TS}(a:Option Addr)(n cap:Nat)(l:List Int)(w:World)(hT:LT w)(h7:gTop<=w.heap.size)(hr:Rd w a (u8s l))(hl:l.length=n)(hle:n<=cap)(hz:(n=0/\cap=0)\/ ∃b o,a=some ⟨b,o,none⟩)(hby:qaA l)(hn:n<=9000000)(hdk:DecW dec)(hB:∀s k,qfr dec l=some (s,k)->RcB s.r/\qaA (qc8 s.r true)):Calls Tryz.prog 19 [.slice a n cap].toArray w fun e w'=> ∃v x,e= .returned (.tuple #[v,iX x])/\((qbX dec l=none/\v= .pointer none/\x=1/\Ch (fun _=>False) w w')\/ ∃b s,qbX dec l=some s/\v=pX b/\x=0/\NewA (qe8 b s) w w'):=by
 have h:=Sep.nil w;refine yA Tryz.func19 rfl<|yx 2<|ysr<|yq 1<|yo (yC (qi2 a n cap l _ hT h7 hr hl hle hz hby hn hdk) ?_);rintro _ u ⟨vr,kr,xr,rfl,E⟩;refine⟨_,rfl,?_⟩;rcases E with⟨c,rfl,rfl,rfl,F⟩|⟨b,s,c,rfl,rfl,G⟩
 ·have h:=h.same F;refine yz 9<|ys<|ys<|zD [9,10,12] h fun u h=>yd (uL 0 16) [] .z<|yDe (nS ?_);refine yct<|yx 2<|q9 (rS (yR2 [.pointer none,iX 1] .z ?_));exact⟨_,1,rfl,.inl ⟨by unfold qbX;rw[c],rfl,rfl,h.ch⟩⟩
 have h:=h.addN G;refine yz 9<|ys<|ys<|zD [9,10,12] h fun u h=>yd (uL 0 8) [] .z<|yv [20] (rL ((kr:Nat):Int) ((n:Nat):Int)) (fun f=>?_) fun f=>?_
 ·have S:=f;refine yd [8,11] [] .z<|qa4 9 12 (by kernel_rfl) (by decide) ?_ ?_
  ·obtain⟨FS,g,j⟩:=h.at (i:=0) (A:=qe8 b s) rfl;obtain⟨sa,sn,sc,eo,ec,ko,kc,kx,hR⟩:=qpF g j;have hW:=hB _ _ c;refine qar 9 _ (by kernel_rfl) rfl (yC (qcv b _ hR hW.1) ?_);rintro _ u ⟨y,m,B,rfl,H⟩;refine⟨_,rfl,?_⟩;have h:=h.join H;have C:(qc8 s.r true).length=m:=by have:=h.len1 1;rwa[List.length_map]at this
   refine q8<|qa4 10 12 (by kernel_rfl) (by decide) ?_ ?_
   ·refine qar 10 _ (by kernel_rfl) rfl (qp (y.map at0) m B (qc8 s.r true) (some 23) (by kernel_rfl) (h.ownRd' 1) C ?_);refine q8<|yK 12 (qp a n cap l (some 25) (by kernel_rfl) (hr.ch h.ch fun _ _ h=>h) hl ?_);refine q8<|yd (uL 13 3) [] .z<|yDe (nS ?_);refine yc (rN (rY (((qf (qc8 s.r true))).toList==((qf l)).toList))) (fun p=>?_) fun p=>?_
    ·have I:=p;refine yx 2<|q9 (rS (yR2 [.pointer none,iX 1] .z ?_));have d:=qs hW.2 hby;exact⟨_,1,rfl,.inl ⟨by unfold qbX;rw[c];exact if_pos ⟨by omega,of_decide_eq_false (d.symm.trans (Bool.eq_false_iff.2 (by simpa using I)))⟩,rfl,rfl,h.ch⟩⟩
    have J:=p;refine yk<|yx 3<|q9 (yR2 [pX b,iX 0] .z ?_);exact⟨_,0,rfl,.inr ⟨b,s,by unfold qbX;rw[c];exact if_neg (fun hh=>hh.2 (of_decide_eq_true ((qs hW.2 hby).symm.trans J))),rfl,rfl,h.finN 0⟩⟩
   refine qar 12 _ (by kernel_rfl) rfl (qp a n cap l (some 25) (by kernel_rfl) (hr.ch h.ch fun _ _ h=>h) hl ?_);refine q8<|yK 10 (qp (y.map at0) m B (qc8 s.r true) (some 23) (by kernel_rfl) (h.ownRd' 1) C ?_);refine q8<|yd (uL 13 3) [] .z<|yDe (nS ?_);refine yc (rN (rY (((qf (qc8 s.r true))).toList==((qf l)).toList))) (fun q=>?_) fun q=>?_
   ·have K:=q;refine yx 2<|q9 (rS (yR2 [.pointer none,iX 1] .z ?_));have d:=qs hW.2 hby;exact⟨_,1,rfl,.inl ⟨by unfold qbX;rw[c];exact if_pos ⟨by omega,of_decide_eq_false (d.symm.trans (Bool.eq_false_iff.2 (by simpa using K)))⟩,rfl,rfl,h.ch⟩⟩
   have L:=q;refine yk<|yx 3<|q9 (yR2 [pX b,iX 0] .z ?_);exact⟨_,0,rfl,.inr ⟨b,s,by unfold qbX;rw[c];exact if_neg (fun hh=>hh.2 (of_decide_eq_true ((qs hW.2 hby).symm.trans L))),rfl,rfl,h.finN 0⟩⟩
  refine qar 12 _ (by kernel_rfl) rfl (qp a n cap l (some 25) (by kernel_rfl) (hr.ch h.ch fun _ _ h=>h) hl ?_);refine q8 ?_;obtain⟨FS,g,j⟩:=h.at (i:=0) (A:=qe8 b s) rfl;obtain⟨sa,sn,sc,eo,ec,ko,kc,kx,hR⟩:=qpF g j;have hW:=hB _ _ c;refine yK 9 (yC (qcv b _ hR hW.1) ?_);rintro _ u ⟨M,D,N,rfl,O⟩;refine⟨_,rfl,?_⟩;have h:=h.join O;have P:(qc8 s.r true).length=D:=by have:=h.len1 1;rwa[List.length_map]at this
  refine q8<|yK 10 (qp (M.map at0) D N (qc8 s.r true) (some 23) (by kernel_rfl) (h.ownRd' 1) P ?_);refine q8<|yd (uL 13 3) [] .z<|yDe (nS ?_);refine yc (rN (rY (((qf (qc8 s.r true))).toList==((qf l)).toList))) (fun t=>?_) fun t=>?_
  ·have Q:=t;refine yx 2<|q9 (rS (yR2 [.pointer none,iX 1] .z ?_));have d:=qs hW.2 hby;exact⟨_,1,rfl,.inl ⟨by unfold qbX;rw[c];exact if_pos ⟨by omega,of_decide_eq_false (d.symm.trans (Bool.eq_false_iff.2 (by simpa using Q)))⟩,rfl,rfl,h.ch⟩⟩
  have R:=t;refine yk<|yx 3<|q9 (yR2 [pX b,iX 0] .z ?_);exact⟨_,0,rfl,.inr ⟨b,s,by unfold qbX;rw[c];exact if_neg (fun hh=>hh.2 (of_decide_eq_true ((qs hW.2 hby).symm.trans R))),rfl,rfl,h.finN 0⟩⟩
 have T:=f;refine yd (uL 8 8) [] .z<|yDe (nS ?_);refine ycf<|yk<|yx 3<|q9 (yR2 [pX b,iX 0] .z ?_);exact⟨_,0,rfl,.inr ⟨b,s,by unfold qbX;rw[c];exact if_neg (fun hh=>absurd hh.1 (by omega)),rfl,rfl,h.finN 0⟩⟩
abbrev tRec:TypeId:=34
abbrev qw:TypeId:=69
def wrC (sb t:Nat):List Value:=[.pointer (some ⟨sb,0,none⟩),.string nmR,.pointer (some ⟨t,0,none⟩),.bool false]
def qpX (b sb:Nat)(s:Sc)(x:ScX):List Asn:=recL b s.r x (wrC sb x.t) qw++[qav x.t s.T]
abbrev qeb (b sb:Nat)(s:Sc):Asn:=qjC (qpX b sb s)
section
variable {w0 w w':World}{F0:Nat->Prop}{l m:List Asn}{A A':Asn}{b sb:Nat}
theorem Sep.addP {p:Prop}(h:Sep w0 F0 w l)(hp:p):Sep w0 F0 w (l++[qdT p]):=
 h.add (A:=qdT p) (G:=fun _=>False) hp (fun _ h=>h.elim) (Ch.refl _ _)
theorem Sep.wrt {A0:Asn}{sa:Option Addr}{sn sc ec kc n m t:Nat}{eo ko:Option Nat}{start:List Int}{evs:List Ev}{keys:List Ky}{ks:List Value}{L:List (Option Addr×List Int)}{U:TS}(kx:Nat->Option Addr×Nat×Nat)
  (h:Sep w0 F0 w [A0,qbr b [.slice sa sn sc,.slice (eo.map at0) n ec,.slice (ko.map at0) m kc,.pointer (some ⟨sb,0,none⟩),.string nmR,.pointer (some ⟨t,0,none⟩),.bool false] qw,qaz tEv 5 eo n ec (evsV evs),qaz qgS 2 ko m kc ks,roA L,qav t U])
  (hn:evs.length=n) (hm:keys.length=m) (hks:ks=qaL kx keys 0) (hL:L=roL ⟨sa,sn,sc,eo,ec,ko,kc,kx,t⟩ ⟨start,evs,keys⟩) (hok:ScOk ⟨sa,sn,sc,eo,ec,ko,kc,kx,t⟩ ⟨start,evs,keys⟩):Sep w0 F0 w [A0,qeb b sb ⟨⟨start,evs,keys⟩,U⟩]:=by
 subst hn hm hks hL
 have h:=h.addP hok
 exact Sep.pack (l:=[A0]) (L:=qpX b sb ⟨⟨start,evs,keys⟩,U⟩) ⟨sa,sn,sc,eo,ec,ko,kc,kx,t⟩ (h.ord [0,1,2,3,4,6,5]).eqv
theorem Sep.into (h:Sep w0 F0 w l)(i:Nat){F:Nat->Nat->Prop}(h1:∀(j:Nat) (A:Asn),l[j]? =some A->A.P w (F j))(h2:∀j k,j≠k-> ∀b,F j b-> ¬F k b)(h3:∀j b,F j b->(F0 b\/w0.heap.size<=b)/\b<w.heap.size)(hi:i<l.length)(h':Sep w (F i) w' (A'::m)):Sep w0 F0 w' (l.set i A'++m):=by
 obtain⟨G,k1,k2,k3⟩:=h'.ex
 have hz:=h'.ch.size
 have hz0:=h.ch.size
 have hG:∀q b,G q b->F i b\/w.heap.size<=b:=fun q b hb=>(k3 q b hb).1
 refine Sep.of (h.ch.trans h'.ch fun b hb hb'=>(h3 i b hb').1.elim id fun h=>by omega) (fun j b=>if j=i then G 0 b else if j<l.length then F j b else G (j-l.length+1) b) (fun j A e=>?_) (fun j k hjk b hb hb'=>?_) fun j b hb=>?_
 ·rcases Nat.lt_or_ge j l.length with hj|hj
  ·rw[List.getElem?_append_left (by rw[List.length_set];exact hj)]at e
   by_cases hji:j=i
   ·subst hji
    rw[List.getElem?_set_self hj]at e
    obtain rfl:=Option.some.inj e
    exact Asn.to (k1 0 _ rfl) fun b=>by rw[if_pos rfl]
   ·rw[List.getElem?_set_ne (fun h=>hji h.symm)]at e
    exact Asn.to (A.ch (h1 j A e) h'.ch fun b hb hb'=>h2 j i hji b hb hb') fun b=>by rw[if_neg hji,if_pos hj]
  ·rw[List.getElem?_append_right (by rw[List.length_set];exact hj),List.length_set]at e
   exact Asn.to (k1 (j-l.length+1) A e) fun b=>by rw[if_neg (by omega),if_neg (by omega)]
 ·have key:∀p q,p≠i->p<l.length->F p b->G q b->False:=fun p q hp hpl hf hg=>by
   rcases hG q b hg with h4|h4
   ·exact h2 p i hp b hf h4
   ·have:=(h3 p b hf).2;omega
  by_cases hj:j=i
  ·rw[if_pos hj]at hb
   by_cases hk:k=i
   ·exact hjk (hj.trans hk.symm)
   ·rw[if_neg hk]at hb'
    split at hb'
    ·exact key k 0 hk (by assumption) hb' hb
    ·exact k2 0 _ (by omega) b hb hb'
  ·rw[if_neg hj]at hb
   by_cases hk:k=i
   ·rw[if_pos hk]at hb'
    split at hb
    ·exact key j 0 hj (by assumption) hb hb'
    ·exact k2 0 _ (by omega) b hb' hb
   ·rw[if_neg hk]at hb'
    split at hb
    ·rename_i hjl
     split at hb'
     ·exact h2 j k hjk b hb hb'
     ·exact key j _ hj hjl hb hb'
    ·rename_i hjl
     split at hb'
     ·rename_i hkl;exact key k _ hk hkl hb' hb
     ·exact k2 _ _ (by omega) b hb hb'
 ·have hg:∀q,G q b->(F0 b\/w0.heap.size<=b)/\b<w'.heap.size:=fun q hq=>⟨(k3 q b hq).1.elim (fun h4=>(h3 i b h4).1) fun h4=> .inr (by omega),(k3 q b hq).2⟩
  split at hb
  ·exact hg _ hb
  ·split at hb
   ·have:=h3 j b hb;exact⟨this.1,by omega⟩
   ·exact hg _ hb
theorem RcRd.fresh {a:Option Addr}{n c:Nat}{start:List Int}{tl:List Value}{T:TypeId}(hb:Blk w b (.slice a n c:: .slice none 0 0:: .slice none 0 0::tl) T)(hr:Rd w a (u8s start))(hl:start.length=n)(hz:a=none->c=0):RcRd w b a n c none 0 none 0 (fun _=>(none,0,0)) ⟨start,[],[]⟩:=
 ⟨hb.c 0 rfl,hb.c 1 rfl,hb.c 2 rfl,hr,hl,hz,Rd.nil _ _,Rd.nil _ _,⟨Nat.zero_le _,Nat.zero_le _⟩,fun i hi=>absurd hi (Nat.not_lt_zero _)⟩
theorem qpY (start:List Int):∀i,(qC ⟨start,[],[]⟩ i).out=qa9 83 start/\(qC ⟨start,[],[]⟩ i).k=0
 |0=>⟨rfl,rfl⟩
 |i+1=>by
  obtain⟨h1,h2⟩:=qpY start i
  have e:qcS ⟨start,[],[]⟩ i (qC ⟨start,[],[]⟩ i)=qC ⟨start,[],[]⟩ i:=if_neg fun h=>absurd h.1 (Nat.not_lt_zero _)
  have e2:evP ⟨start,[],[]⟩ i (qC ⟨start,[],[]⟩ i)=qC ⟨start,[],[]⟩ i:=if_neg (Nat.not_lt_zero _)
  show(evP _ i (qcS _ i _)).out=_/\(evP _ i (qcS _ i _)).k=0
  rw[e,e2];exact⟨h1,h2⟩
theorem rcb0 {start:List Int}(hb:qaA start)(hl:start.length<=1000000):RcB ⟨start,[],[]⟩:=
 ⟨⟨hb,hl⟩,fun j hj=>absurd hj (Nat.not_lt_zero _),fun j hj=>absurd hj (Nat.not_lt_zero _),fun i=>by rw[(qpY start i).1];have:=qaq 83 start;omega⟩
theorem enc0 (start:List Int):qc8 ⟨start,[],[]⟩ false=qa9 83 start:=by
 unfold qc8
 rw[if_neg Bool.false_ne_true]
 exact(qpY start _).1
theorem Sep.stAp0 {qu lf:Int}{o:Option Nat}{n c:Nat}{f:List Int}(h:Sep w0 F0 w l)(hg:Gz w0 F0)(i j:Nat)(hij:i≠j)(hi:l[i]? =some (qbf sb ⟨none,qu,false,lf,false⟩):=by rfl)(hj:l[j]? =some (qaz tU8 1 o n c (u8s f)):=by rfl)(hq:((n:Nat):Int)<=qu:=by omega)(hm:n<=1000000000:=by omega)(hqb:qu<=4611686018427387904:=by omega):
  Calls Tryz.prog 69 [.pointer (some ⟨sb,0,none⟩),.string nmR,.slice (o.map at0) n c].toArray w fun e w'=>e= .returned (.int .i64 0)/\Sep w0 F0 w' (l.set i (qbf sb ⟨some ⟨f,0⟩,qu,false,lf,false⟩)):=by
 have hO:=h.own j hj
 obtain⟨F,h1,h2,h3⟩:=h.ex
 refine(append_0 sb qu lf (F i) (o.map at0) n c f w (h1 i _ hi) (h.gz hg (h3 i)) hO.rd hO.len1' ?_ ?_ hq hm hqb).mono fun e w' ⟨he,hA,hc⟩=>⟨he,h.upd hi F h1 h2 h3 hA hc⟩
 ·intro e
  cases o with
  |none=>exact(hO.2.2.2.1 rfl).2
  |some q=>cases e
 ·intro ad ha hF
  cases o with
  |none=>cases ha
  |some q=>
   obtain rfl:=Option.some.inj ha
   exact h2 i j hij q hF ((h1 j _ hj).2 q rfl)
theorem Sep.stAp1 {q:Fl}{qu lf:Int}{o:Option Nat}{n c:Nat}{f:List Int}(h:Sep w0 F0 w l)(hg:Gz w0 F0)(i j:Nat)(hij:i≠j)(hi:l[i]? =some (qbf sb ⟨some q,qu,false,lf,false⟩):=by rfl)(hj:l[j]? =some (qaz tU8 1 o n c (u8s f)):=by rfl)(hq:((q.data.length:Nat):Int)+((n:Nat):Int)<=qu:=by omega)(hz:q.data.length<=1000000000:=by omega)(hm:n<=1000000000:=by omega)(hqb:qu<=4611686018427387904:=by omega):
  Calls Tryz.prog 69 [.pointer (some ⟨sb,0,none⟩),.string nmR,.slice (o.map at0) n c].toArray w fun e w'=>e= .returned (.int .i64 0)/\Sep w0 F0 w' (l.set i (qbf sb ⟨some ⟨q.data++f,q.sure⟩,qu,false,lf,false⟩)):=by
 have hO:=h.own j hj
 obtain⟨F,h1,h2,h3⟩:=h.ex
 refine(append_1 sb q qu lf (F i) (o.map at0) n c f w (h1 i _ hi) (h.gz hg (h3 i)) hO.rd hO.len1' ?_ ?_ hq hz hm hqb).mono fun e w' ⟨he,hA,hc⟩=>⟨he,h.upd hi F h1 h2 h3 hA hc⟩
 ·intro e
  cases o with
  |none=>exact(hO.2.2.2.1 rfl).2
  |some q=>cases e
 ·intro ad ha hF
  cases o with
  |none=>cases ha
  |some q=>
   obtain rfl:=Option.some.inj ha
   exact h2 i j hij q hF ((h1 j _ hj).2 q rfl)
def addS (s:Sc)(e:Ev):Sc:=⟨⟨s.r.start,s.r.evs++[e],if(s.r.evs.length+1)% 8=0 then s.r.keys++[⟨s.r.evs.length+1,qN (qU s.T e)⟩]else s.r.keys⟩,qU s.T e⟩
def addB (s:Sc)(e:Ev):List Int:=if(s.r.evs.length+1)% 8=0 then qa9 69 (evI (qae s.r.evs) e)++qa9 75 (qQ ⟨s.r.evs.length+1,qN (qU s.T e)⟩)else qa9 69 (evI (qae s.r.evs) e)
abbrev logA (b sb:Nat)(q:Fl)(qu lf:Int)(s:Sc):Asn:=qjC fun _:Unit=>[qbf sb ⟨some q,qu,false,lf,false⟩,qeb b sb s]
end
theorem stRd0 {sb:Nat}{qu lf:Int}{ar dn:Bool}{F:Nat->Prop}{w:World}(h:(qbf sb ⟨none,qu,ar,lf,dn⟩).P w F)(hF:∀k,F k->k<w.heap.size):∃x,StRd w sb ⟨none,qu,ar,lf,dn⟩ x:=by
 obtain⟨x,h⟩:=Sep.startP h hF;exact⟨x,h.b 0,h.ob 1⟩
theorem lnew_any (t:Nat)(T:TS)(FT:Nat->Prop)(w:World)(hA0:(qav t T).P w FT)(hOk:OkS T):Calls Tryz.prog 23 [pX t].toArray w fun e w'=> ∃b o n c,e= .returned (pX b)/\Sep w (fun _=>False) w' [qaz tU8 1 o n c (u8s (qN T)),qbr b [.slice (o.map at0) n c,nX,nX] tRec]:=by
 have g:∀b,FT b-> ¬(fun _:Nat=>False) b:=fun _ _ h=>h;have h:=Sep.nil w;refine yA Tryz.func23 rfl<|yx 1<|ysr<|yq 1<|yo (yC (qi1 (tmA.at ((qav t T).ch hA0 h.ch g)) hOk.dec.enc) ?_);rintro _ u ⟨d,a,f,rfl,i,_,j,k⟩;refine⟨_,rfl,?_⟩;have h:=h.fresh i j k;have m:(qN T).length=a:=by have:=h.len1 0;rwa[List.length_map]at this
 refine yq 3<|yo (zN [.slice (d.map at0) a f,nX,nX] 34 h fun u l h=>?_);refine yz 5<|q9 (yR1 (pX l) ?_);exact⟨_,d,a,f,rfl,(h.ord [0,1]).eqv⟩
theorem qi3 (sb t:Nat)(T:TS)(qu lf:Int)(FS FT:Nat->Prop)(w:World)(hS:(qbf sb ⟨none,qu,false,lf,false⟩).P w FS)(hg:Gz w FS)(hA0:(qav t T).P w FT)(hdis:∀b,FT b-> ¬FS b)(hOk:OkS T)(hq:(((qa9 83 (qN T)).length:Nat):Int)<=qu)(hqb:qu<=4611686018427387904):Calls Tryz.prog 32 [pX sb,.string nmR,pX t].toArray w fun e w'=> ∃b,e= .returned (.tuple #[pX b,iX 0])/\Sep w FS w' [qbf sb ⟨some ⟨qa9 83 (qN T),0⟩,qu,false,lf,false⟩,qeb b sb ⟨⟨qN T,[],[]⟩,T⟩]:=by
 have h:=Sep.one hS fun b hb=>(hg.lo b hb).2;have F:=qcg hOk.dec;have o:=qd1 hOk.dec;refine yA Tryz.func32 rfl<|yx 2<|ys<|ysr<|yq 2 ?_;obtain⟨FX,p,r⟩:=h.at (i:=0) (A:=qbf sb ⟨none,qu,false,lf,false⟩) rfl;obtain⟨x,s⟩:=stRd0 p r;refine yo (yQ (h.look (sread_0 sb x qu false lf false _ s rfl)) fun u h=>?_);refine yz 8<|yx 2<|ycf<|yk<|ys<|zDC [1,9] [0] h fun u h=>ydF [0,4,5,6] [] h.on (fun u h=> .z)<|yK 1 (yC (lnew_any t T FT _ ((qav t T).ch hA0 h.ch hdis) hOk) ?_);rintro _ u ⟨G,c,d,f,rfl,v⟩;refine⟨_,rfl,?_⟩;have h:=h.join v;have g:(qN T).length=d:=by have:=h.len1 1;rwa[List.length_map]at this
 refine zK (is:=[0,1,2]) h<|ydF [2,3] [] h.on (fun u h=>(.a (h.cs 2 0 3) .z))<|yH 7 (yC (qmm (tmA.at ((qav t T).ch hA0 h.ch hdis)) hOk.dec.enc) ?_);rintro _ u ⟨j,rfl,y,B⟩;refine⟨_,rfl,?_⟩;have h:=h.newTm y B;refine zHa h<|ydF [8] [] h.on (fun u h=> .z)<|yK 9 (zN [.slice (c.map at0) d f,nX,nX,pX sb,.string nmR,pX j,.bool false] 69 h fun u k h=>?_);refine q8<|yd [10] [] .z<|yDe (nS ?_);refine ys<|ysr<|yq 5<|yo (yC (qd4 k _ (RcRd.fresh (h.b 4) (h.ownRd' 1) g (by intro e;cases hq:c with|none=>exact((h.own 1).2.2.2.1 hq).2|some q=>rw[hq]at e;cases e)) (rcb0 o (by omega))) ?_);rintro _ u ⟨H,C,I,rfl,l⟩;refine⟨_,rfl,?_⟩;rw[enc0]at l;have h:=h.join l;have D:(qa9 83 (qN T)).length=C:=by have:=h.len1 5;rwa[List.length_map]at this
 have J:=qaq 83 (qN T);have K:=D;refine yo (yQ (h.stAp0 hg 0 5 (by decide)) fun u h=>?_);refine yz 8<|yx 2<|ycf<|yk<|yx 3<|q9 (yR2 [pX k,iX 0] .z ?_);have E:=(show c.map at0=none->f=0 from(by intro e;cases hq:c with|none=>exact((h.own 1).2.2.2.1 hq).2|some q=>rw[hq]at e;cases e))
 have h:=h.own0 tEv 5;have h:=h.own0 qgS 2;have h:=h.ro0;have h:=h.toRo 8 1 (c.map at0) (qN T) fun hO=>⟨hO.rd,fun ad e=>by cases hq:c with|none=>rw[hq]at e;cases e|some q=>rw[hq]at e;obtain rfl:=zi e;rfl⟩
 exact⟨_,rfl,Sep.wrt (sa:=c.map at0) (sn:=d) (sc:=f) (eo:=none) (ec:=0) (ko:=none) (kc:=0) (t:=j) (n:=0) (m:=0) (start:=qN T) (evs:=[]) (keys:=[]) (fun _=>(none,0,0)) (h.ord [0,4,6,7,8,3]).eqv rfl rfl rfl rfl ⟨g,E,fun i hi=>absurd hi (Nat.not_lt_zero _),Nat.zero_le _,Nat.zero_le _⟩⟩
theorem qpZ {t k W H:Int}{d:ByteArray}(w:World)(hB:evB ⟨t,k,d,W,H⟩=true):Calls Tryz.prog 74 [.agg #[iX t,iX k,.string d,iX W,iX H]].toArray w fun e w'=>e= .returned (.bool true)/\Ch (fun _=>False) w w':=by
 have:=qe9 t k W H d w;rw[hB]at this;exact this
theorem qq0 (b sb:Nat)(r:Rc)(U:TS)(da:List Int)(su qu lf:Int)(e:Ev)(F:Nat->Prop)(w:World)(hA:(logA b sb ⟨da,su⟩ qu lf ⟨r,U⟩).P w F)(hg:Gz w F)(hT:LT w)(hO:OkS U)(hB:evB e=true)(hl0:0<=qae r.evs)(hl1:qae r.evs<=e.time)(hen:r.evs.length+1<=10000000/\r.keys.length+1<=10000000)(hda:da.length<=900000000)(hq:((da.length:Nat):Int)+(((addB ⟨r,U⟩ e).length:Nat):Int)<=qu)(hqb:qu<=4611686018427387904):Calls Tryz.prog 37 [pX b,.agg e.vals.toArray].toArray w fun x w'=>x= .returned (iX 0)/\qke (logA b sb ⟨da,su⟩ qu lf ⟨r,U⟩) (logA b sb ⟨da++addB ⟨r,U⟩ e,su⟩ qu lf (addS ⟨r,U⟩ e)) F w w':=by
 obtain⟨_,h⟩:=Sep.startA hA hg;obtain⟨x,h⟩:=h.unpack 1;obtain⟨sa,sn,sc,eo,ec,ko,kc,kx,t⟩:=x;have h:=(h.ord [2,3,4,5,6,7,0]).eqv (m:=[qbr b [.slice sa sn sc,.slice (eo.map at0) r.evs.length ec,.slice (ko.map at0) r.keys.length kc,pX sb,.string nmR,pX t,.bool false] qw,qaz tEv 5 eo r.evs.length ec (evsV r.evs),qaz qgS 2 ko r.keys.length kc (qaL kx r.keys 0),roA (roL ⟨sa,sn,sc,eo,ec,ko,kc,kx,t⟩ r),qdT (ScOk ⟨sa,sn,sc,eo,ec,ko,kc,kx,t⟩ r),qav t U,qbf sb ⟨some ⟨da,su⟩,qu,false,lf,false⟩]);have s:=h.pure 4;have a3:e.data.size<=1000000:=by have:=(qgI hB).1.2;omega
 have B:=hO.ap hB;have am:=qcg B.dec;have a4:=qd1 B.dec;have an:=qe5 (fr:=qae r.evs) hB;have a5:=qeV hB hl0;have a6:=qdO ⟨r.evs.length+1,qN (qU U e)⟩;dsimp only at a6;refine yA Tryz.func37 rfl<|ysr<|yo (zN [iX e.time,iX e.kind,.string e.data,iX e.w,iX e.h] 66 h fun u ao h=>?_);refine yz 2<|ys<|qa<|ys<|zDC [1] [0,1,2,3,4,5,6,7] h fun u h=>ydF [0] [] h.on (fun u h=>(.a (h.cs 7 0 5) .z))<|yK 1 (yQ (h.look (qpZ _ hB)) fun u h=>?_);refine zK (is:=[0,1,2,3,4,5,6,7]) h<|ydF (uL 2 7) [] h.on (fun u h=>(.l (h.c 7 0) .z))<|yH 9 (yQ (h.look (qeY b _ (h.rc (x:=⟨sa,sn,sc,eo,ec,ko,kc,kx,t⟩) (r:=r) (tl:=wrC sb t) (T:=qw)))) fun u h=>?_);refine zH h<|ydF (uL 10 3) [] h.on (fun u h=> .z)<|yDe (nS ?_);refine yc (rL e.time (qae r.evs)) (fun C=>?_) fun C=>?_
 ·have a7:=C;exact absurd a7 (by omega)
 have aq:=C;refine ysr<|yp 5 [] (.l (h.c 0 6) .z)<|ye<|ycf<|qk (nB (nS ?_));refine ysr<|yp 4 [] (.l (h.c 0 5) .z) ?_;obtain⟨FT,a8,_⟩:=h.at (i:=5) (A:=qav t U) rfl;refine yo (yC (qmm (tmA.at a8) hO.dec.enc) ?_);rintro _ u ⟨y,rfl,a9,aa⟩;refine⟨_,rfl,?_⟩;have h:=h.newTm a9 aa;refine yz 6<|ysr<|yp 2 [] (.a (h.cs 7 0 5) .z)<|yo (yQ (h.app hg hT 8 e hO.fine a3) fun u h=>?_);refine ye<|ys<|zDC [5,6] [0,1,2,3,4,5,6,7,8] h fun u h=>ydF [0,1,2,4] [] h.on (fun u h=>(.a (h.cs 7 0 5) .z))<|yH 3 (yQ (h.look (qeY b _ (h.rc (x:=⟨sa,sn,sc,eo,ec,ko,kc,kx,t⟩) (r:=r) (tl:=wrC sb t) (T:=qw)))) fun u h=>?_);refine zH h<|yK 5 (yC (qeX none 0 0 [] (qae r.evs) _ _ _ _ _ _ (Own.nil _ _ _) hB ⟨hl0,hl1⟩ (by omega)) ?_);rintro _ u ⟨H,I,ab,rfl,J,ar,ac⟩;refine⟨_,rfl,?_⟩;rw[List.nil_append]at J;have h:=h.app0 J ac;have K:(evI (qae r.evs) e).length=I:=by have:=h.len1 9;rwa[List.length_map]at this
 refine q8 ?_;have au:=qaq 69 (evI (qae r.evs) e);refine yK 6 (yC (qb6 none 0 0 [] 69 (H.map at0) I ab (evI (qae r.evs) e) _ (Own.nil _ _ _) (h.ownRd' 9) K (by intro e;cases hq:H with|none=>exact((h.own 9).2.2.2.1 hq).2|some q=>rw[hq]at e;cases e) a5 (by decide) (fun _ _ e=>by cases e) (by have:=K;omega)) ?_);rintro _ u ⟨ae,D,af,rfl,M,av,ag⟩;refine⟨_,rfl,?_⟩;rw[List.nil_append]at M;have h:=h.app0 M ag;have N:(qa9 69 (evI (qae r.evs) e)).length=D:=by have:=h.len1 10;rwa[List.length_map]at this
 refine q8<|yd [7] [] .z<|yDe (nS ?_);refine ysr<|yp 6 [] (.l (h.c 0 2) .z)<|ye<|ys<|ysr<|yp 8 [] (.l (h.c 0 1) (.q6 (((r.evs.length:Nat):Int)+1) .z))<|ye<|ysr ?_;refine yp 3 [] (.p (q:=0<=((((r.evs.length:Nat):Int)+1):Int)/\0<(8:Int)) (by constructor<;>omega) .z) ?_;refine ye<|yc (rE ((((r.evs.length:Nat):Int)+1)% 8) 0) (fun E=>?_) fun E=>?_
 ·have aw:=E;refine ysr<|yq 2<|yo (yC (h.encT 8 B.dec.enc) ?_);rintro _ u ⟨d,f,g,rfl,h⟩;refine⟨_,rfl,?_⟩;have G:(qN (qU U e)).length=f:=by have:=h.len1 11;rwa[List.length_map]at this
  have O:d.map at0=none->g=0:=(by intro e;cases hq:d with|none=>exact((h.own 11).2.2.2.1 hq).2|some q=>rw[hq]at e;cases e)
  refine yq 4<|yo (zN [iX 0,nX] 51 h fun u ax h=>?_);refine yo (zs h 12 fun u h=>?_);refine ye<|ysr<|yp 2 [] (.a (h.cs 12 0 2) .z)<|yo (yC (qcT ⟨r.evs.length+1,qN (qU U e)⟩ (d.map at0) f g _ (h.ownRd' 11) G O (by have:=G;omega) (by dsimp only;omega)) ?_);rintro _ u ⟨Q,R,ah,rfl,ai⟩;refine⟨_,rfl,?_⟩;have h:=h.join ai;have S:(qQ ⟨r.evs.length+1,qN (qU U e)⟩).length=R:=by have:=h.len1 13;rwa[List.length_map]at this
  have ay:=qaq 75 (qQ ⟨r.evs.length+1,qN (qU U e)⟩);refine yo (yC (qb6 ae D af (qa9 69 (evI (qae r.evs) e)) 75 (Q.map at0) R ah (qQ ⟨r.evs.length+1,qN (qU U e)⟩) _ (h.own 10) (h.ownRd' 13) S (by intro e;cases hq:Q with|none=>exact((h.own 13).2.2.2.1 hq).2|some q=>rw[hq]at e;cases e) (qj (qo (by dsimp only;omega)) a4) (by decide) (h.neA 10 13) (by have:=S;have:=N;omega)) ?_);rintro _ u ⟨az,V,aA,rfl,aj,aB,ak⟩;refine⟨_,rfl,?_⟩;have h:=h.appI 10 aj ak;have al:(qa9 69 (evI (qae r.evs) e)++qa9 75 (qQ ⟨r.evs.length+1,qN (qU U e)⟩)).length=V:=by have:=h.len1 10;rwa[List.length_map]at this
  refine yz 5<|q7<|yp 2 [] (.a (h.cs 12 0 2) .z)<|yo (zB [iX (((r.evs.length:Nat):Int)+1),.slice (d.map at0) f g] 51 1 h fun u aC h=>?_);refine yo (zA 2 32 1 1 (r.keys.length+1) (qaL (kxS kx r.keys.length (d.map at0,f,g)) (r.keys++[⟨r.evs.length+1,qN (qU U e)⟩]) 0) h (Rd.all (h.b 14)) rfl (hz:=qft (k:=⟨r.evs.length+1,qN (qU U e)⟩) (v:=(d.map at0,f,g))) fun u W X h aD=>?_);refine yz 5<|ys<|ys<|zD [9] h fun u h=>yd (uL 0 9) [] (.l (h.c 0 3) (.l (h.c 0 4) .z)) ?_;have Y:=al;rw[List.length_append]at Y;have j:(r.evs.length+1)% 8=0:=by omega
  have o:addB ⟨r,U⟩ e=qa9 69 (evI (qae r.evs) e)++qa9 75 (qQ ⟨r.evs.length+1,qN (qU U e)⟩):=if_pos j;rw[o,List.length_append]at hq;refine yK 9 (yQ (h.stAp1 hg 6 10 (by decide) (hq:=(show((da.length:Nat):Int)+((V:Nat):Int)<=qu by omega)) (hz:=(show da.length<=1000000000 by omega))) fun u h=>?_);refine q8<|yd [10] [] .z<|yDe (nS ?_);refine ycf<|yk<|ys<|zDC [11,15,19,23] [0,1,2,3,4,5,6,7,8,9,10,11,12,13,14] h fun u h=>ydF [0,1,2,3,4,5,6,7,8,9,12] [] h.on (fun u h=>(.l (h.c 0 1) (.a (h.cs 7 0 5) .z)))<|yH 10 (zB [iX e.time,iX e.kind,.string e.data,iX e.w,iX e.h] 66 1 h fun u aE h=>?_);refine zHa h<|yK 11 (zA 1 48 1 1 (r.evs.length+1) (evsV (r.evs++[e])) h (Rd.all (h.b 15)) rfl (hz:=(qd3 _ _).symm) fun u Z a0 h aF=>?_);refine q8<|yd [13,14] [] .z<|yK 15 (zs h 0 fun u h=>?_);refine q8<|yd (uL 16 3) [] .z<|yK 19 (zs h 0 fun u h=>?_);refine q8<|yd (uL 20 3) [] .z<|yK 23 (zs h 0 fun u h=>?_);refine q8<|yDe (nS ?_);refine yx 1<|q9 (yR1 (iX 0) ?_);have h:=h.nrm 0 [.slice sa sn sc,.slice (Z.map at0) (r.evs.length+1) a0,.slice (W.map at0) (r.keys.length+1) X,pX sb,.string nmR,pX y,.bool false];have h:=h.nrm 12 [iX (((r.evs.length:Nat):Int)+1),.slice (d.map at0) f g];rw[o,show addS ⟨r,U⟩ e=⟨⟨r.start,r.evs++[e],r.keys++[⟨r.evs.length+1,qN (qU U e)⟩]⟩,qU U e⟩ by unfold addS;rw[if_pos j]]
  have h:=h.toRo 3 11 (d.map at0) (qN (qU U e)) fun hO=>⟨hO.rd,fun ad e=>by cases hq:d with|none=>rw[hq]at e;cases e|some q=>rw[hq]at e;obtain rfl:=zi e;rfl⟩
  exact⟨rfl,(Sep.pack (l:=[]) (L:=fun _:Unit=>[qbf sb ⟨some ⟨da++_,su⟩,qu,false,lf,false⟩,qeb b sb _]) () (Sep.wrt (sa:=sa) (sn:=sn) (sc:=sc) (eo:=Z) (ec:=a0) (ko:=W) (kc:=X) (t:=y) (n:=r.evs.length+1) (m:=r.keys.length+1) (start:=r.start) (evs:=r.evs++[e]) (keys:=r.keys++[⟨r.evs.length+1,qN (qU U e)⟩]) (kxS kx r.keys.length (d.map at0,f,g)) (h.ord [6,0,1,2,3,8]).eqv (by simp) (by simp) rfl (qiW (x:=⟨sa,sn,sc,eo,ec,ko,kc,kx,t⟩) (r:=r) (k:=⟨r.evs.length+1,qN (qU U e)⟩) (v:=(d.map at0,f,g)) rfl rfl rfl rfl) (qgY s ⟨rfl,rfl,rfl⟩ rfl rfl rfl G O ⟨by rw[List.length_append];exact hen.1,by rw[List.length_append];exact hen.2⟩))).finS hg 0⟩
 have aG:=E;refine yk<|ys<|ys<|zD [9] h fun u h=>yd (uL 0 9) [] (.l (h.c 0 3) (.l (h.c 0 4) .z)) ?_;have Y:=N;have j:¬(r.evs.length+1)% 8=0:=by omega
 have o:addB ⟨r,U⟩ e=qa9 69 (evI (qae r.evs) e):=if_neg j;rw[o]at hq;refine yK 9 (yQ (h.stAp1 hg 6 10 (by decide) (hq:=(show((da.length:Nat):Int)+((D:Nat):Int)<=qu by omega)) (hz:=(show da.length<=1000000000 by omega))) fun u h=>?_);refine q8<|yd [10] [] .z<|yDe (nS ?_);refine ycf<|yk<|ys<|zDC [11,15,19,23] [0,1,2,3,4,5,6,7,8,9,10] h fun u h=>ydF [0,1,2,3,4,5,6,7,8,9,12] [] h.on (fun u h=>(.l (h.c 0 1) (.a (h.cs 7 0 5) .z)))<|yH 10 (zB [iX e.time,iX e.kind,.string e.data,iX e.w,iX e.h] 66 1 h fun u aH h=>?_);refine zHa h<|yK 11 (zA 1 48 1 1 (r.evs.length+1) (evsV (r.evs++[e])) h (Rd.all (h.b 11)) rfl (hz:=(qd3 _ _).symm) fun u a1 a2 h aI=>?_);refine q8<|yd [13,14] [] .z<|yK 15 (zs h 0 fun u h=>?_);refine q8<|yd (uL 16 3) [] .z<|yK 19 (zs h 0 fun u h=>?_);refine q8<|yd (uL 20 3) [] .z<|yK 23 (zs h 0 fun u h=>?_);refine q8<|yDe (nS ?_);refine yx 1<|q9 (yR1 (iX 0) ?_);have h:=h.nrm 0 [.slice sa sn sc,.slice (a1.map at0) (r.evs.length+1) a2,.slice (ko.map at0) r.keys.length kc,pX sb,.string nmR,pX y,.bool false];rw[o,show addS ⟨r,U⟩ e=⟨⟨r.start,r.evs++[e],r.keys⟩,qU U e⟩ by unfold addS;rw[if_neg j]];exact⟨rfl,(Sep.pack (l:=[]) (L:=fun _:Unit=>[qbf sb ⟨some ⟨da++_,su⟩,qu,false,lf,false⟩,qeb b sb _]) () (Sep.wrt (sa:=sa) (sn:=sn) (sc:=sc) (eo:=a1) (ec:=a2) (ko:=ko) (kc:=kc) (t:=y) (n:=r.evs.length+1) (m:=r.keys.length) (start:=r.start) (evs:=r.evs++[e]) (keys:=r.keys) kx (h.ord [6,0,1,2,3,8]).eqv (by simp) rfl rfl rfl ⟨s.sl,s.sz,s.kl,by rw[List.length_append];exact hen.1,by have:=hen.2;dsimp only;omega⟩)).finS hg 0⟩
theorem qmo {x m:Int}{k:Nat}(hm:(BitVec.ofInt 64 m).toNat=k)(hk:k<=9223372036854775807):0<=qe .and .i64 x m/\qe .and .i64 x m<=k:=by
 have h:(BitVec.ofInt 64 x&&&BitVec.ofInt 64 m).toNat<=k:=by
  rw[BitVec.toNat_and,hm]
  exact Nat.and_le_right
 unfold qe
 show 0<=IntKind.wrap .i64 (((BitVec.ofInt 64 x&&&BitVec.ofInt 64 m).toNat:Nat):Int)/\IntKind.wrap .i64 (((BitVec.ofInt 64 x&&&BitVec.ofInt 64 m).toNat:Nat):Int)<=k
 generalize (BitVec.ofInt 64 x&&&BitVec.ofInt 64 m).toNat=n at h
 rw[qca (k:= .i64) (n:=((n:Nat):Int)) (show-9223372036854775808<=((n:Nat):Int)/\((n:Nat):Int)<=9223372036854775807 by omega)]
 omega
theorem andT (x:Int):0<=qe .and .i64 x 65535/\qe .and .i64 x 65535<=65535:=qmo (by decide) (by decide)
theorem andK (x:Int):0<=qe .and .i64 x 3/\qe .and .i64 x 3<=3:=qmo (by decide) (by decide)
theorem andS (x:Int):0<=qe .and .i64 x 127/\qe .and .i64 x 127<=127:=qmo (by decide) (by decide)
def cut4 (s:ByteArray):ByteArray:=if 400<((s.size:Nat):Int)then s.extract 0 400 else s
def qcC (t:Int)(e:Ev):Ev:=if qe .and .i64 e.kind 3=2 then⟨t+qe .and .i64 e.time 65535,qe .and .i64 e.kind 3,E0,qe .and .i64 e.w 127+1,qe .and .i64 e.h 127+1⟩else⟨t+qe .and .i64 e.time 65535,qe .and .i64 e.kind 3,cut4 e.data,0,0⟩
def qb2 (l:List Ev):Nat->List Ev
 |0=>[]
 |k+1=>qb2 l k++[qcC (qae (qb2 l k)) (ge l k)]
abbrev tameL (l:List Ev):List Ev:=qb2 l l.length
theorem qcV (l:List Ev)(e:Ev):qae (l++[e])=e.time:=by
 unfold qae qZ
 rw[if_neg (by simp),List.length_append,List.length_singleton,Nat.add_sub_cancel,qiR]
theorem qkw (l:List Ev):∀k,(qb2 l k).length=k
 |0=>rfl
 |k+1=>by rw[qb2,List.length_append,qkw l k];rfl
theorem qc9 (t:Int)(e:Ev):(qcC t e).time=t+qe .and .i64 e.time 65535:=by unfold qcC;split<;>rfl
theorem qq1 (s:ByteArray):(cut4 s).size<=400:=by
 unfold cut4
 split
 ·rw[ByteArray.size_extract];omega
 ·omega
theorem tame1_ok {t:Int}{e:Ev}(h0:0<=t)(h1:t<=1000000000000):evB (qcC t e)=true:=by
 have hT:=andT e.time
 have hK:=andK e.kind
 have hW:=andS e.w
 have hH:=andS e.h
 have hc:=qq1 e.data
 unfold qcC
 split
 ·rename_i hk
  unfold evB
  dsimp only
  rw[if_neg (by have:E0.size=0:=rfl;omega),if_pos hk]
  exact decide_eq_true ⟨rfl,by omega,by omega,by omega,by omega⟩
 ·rename_i hk
  unfold evB
  dsimp only
  rw[if_neg (by omega),if_neg hk,if_pos (by omega)]
  exact decide_eq_true ⟨rfl,rfl⟩
structure EvsOk (l:List Ev):Prop where
 evb:∀i,i<l.length->evB (ge l i)=true
 tm:∀i,i<l.length->0<=qZ l i/\qZ l i<=(ge l i).time
theorem qkx {l:List Ev}(m:List Ev){i:Nat}(h:i<=l.length):qZ (l++m) i=qZ l i:=by
 unfold qZ
 split
 ·rfl
 ·rw[qhX m (by omega)]
theorem EvsOk.nil:EvsOk []:=⟨fun i h=>absurd h (Nat.not_lt_zero i),fun i h=>absurd h (Nat.not_lt_zero i)⟩
theorem EvsOk.last {l:List Ev}(h:EvsOk l):0<=qae l/\qae l<=4611686018427387904:=by
 unfold qae qZ
 split
 ·decide
 ·have:=(qgI (h.evb (l.length-1) (by omega))).1.1
  omega
theorem EvsOk.snoc {l:List Ev}{e:Ev}(h:EvsOk l)(he:evB e=true)(hl:qae l<=e.time):EvsOk (l++[e]):=by
 have h0:=h.last
 refine⟨fun i hi=>?_,fun i hi=>?_⟩
 ·rw[List.length_append,List.length_singleton]at hi
  rcases Nat.lt_or_ge i l.length with hl|hl
  ·rw[qhX _ hl];exact h.evb i hl
  ·obtain rfl:i=l.length:=by omega
   rw[qiR];exact he
 ·rw[List.length_append,List.length_singleton]at hi
  rw[qkx _ (by omega)]
  rcases Nat.lt_or_ge i l.length with hl|hl
  ·rw[qhX _ hl];exact h.tm i hl
  ·obtain rfl:i=l.length:=by omega
   rw[qiR];exact⟨h0.1,by assumption⟩
theorem EvsOk.take {l:List Ev}(h:EvsOk l)(n:Nat):EvsOk (l.take n):=by
 have key:l=l.take n++l.drop n:=(List.take_append_drop n l).symm
 refine⟨fun i hi=>?_,fun i hi=>?_⟩
 ·have hi':i<l.length:=by rw[List.length_take]at hi;omega
  have:=h.evb i hi'
  rw[key,qhX _ hi]at this;exact this
 ·have hi':i<l.length:=by rw[List.length_take]at hi;omega
  have:=h.tm i hi'
  rw[key,qhX _ hi,qkx _ (by omega)]at this;exact this
theorem qj0 (l:List Ev):∀k,k<=1000->EvsOk (qb2 l k)/\qae (qb2 l k)<=65535*k
 |0,_=>⟨.nil,by show qZ [] 0<=_;simp[qZ]⟩
 |k+1,hk=>by
  obtain⟨h1,h2⟩:=qj0 l k (by omega)
  have h0:=h1.last
  have hT:=andT (ge l k).time
  refine⟨h1.snoc (tame1_ok h0.1 (by omega)) (by rw[qc9];omega),?_⟩
  rw[qb2,qcV,qc9]
  omega
def qd5 (T0:TS)(l:List Ev)(n:Nat):List Ky:=(List.range (n/8)).map fun j=>⟨8*(j+1),qN (qa3 T0 l (8*(j+1)))⟩
def qdU (T0:TS)(l:List Ev)(k:Nat):Rc:=⟨qN T0,l.take k,qd5 T0 l k⟩
theorem qq2 (T0:TS)(l:List Ev){k:Nat}(h:k<l.length):addS ⟨qdU T0 l k,qa3 T0 l k⟩ (ge l k)=⟨qdU T0 l (k+1),qa3 T0 l (k+1)⟩:=by
 have hl:(l.take k).length=k:=by rw[List.length_take];omega
 unfold addS qdU
 dsimp only
 rw[hl,qpB h]
 congr 2
 unfold qd5
 split
 ·rename_i h8
  rw[show(k+1)/8=k/8+1 by omega,List.range_succ,List.map_append]
  simp only[List.map_cons,List.map_nil]
  rw[show 8*(k/8+1)=k+1 by omega];rfl
 ·rw[show(k+1)/8=k/8 by omega]
theorem qbS (T0:TS)(l:List Ev)(k:Nat):(qd5 T0 l k).length=k/8:=by simp[qd5]
theorem qdP (T0:TS)(l:List Ev){k j:Nat}(h:j<k/8):gky (qd5 T0 l k) j=⟨8*(j+1),qN (qa3 T0 l (8*(j+1)))⟩:=by
 unfold gky qd5
 rw[List.getD_eq_getElem?_getD,List.getElem?_map,List.getElem?_range h];rfl
theorem OkS.fold {T0:TS}(h:OkS T0){l:List Ev}(hl:EvsOk l):∀k,k<=l.length->OkS (qa3 T0 l k)
 |0,_=>h
 |k+1,hk=>(OkS.fold h hl k (by omega)).ap (hl.evb k (by omega))
theorem qnu (T:TS)(l:List Ev){k n:Nat}(h:k<=n)(hn:n<=l.length):qa3 T (l.take n) k=qa3 T l k:=by
 have:=qkn T (l.take n) (l.drop n) k (by rw[List.length_take];omega)
 rw[List.take_append_drop]at this
 exact this.symm
theorem qq3 {T0:TS}{l:List Ev}(hl:EvsOk l){k:Nat}(hk:k<=l.length):RcOk T0 (qdU T0 l k):=by
 have hn:(l.take k).length=k:=by rw[List.length_take];omega
 have ht:=hl.take k
 refine⟨ht.evb,ht.tm,fun j hj=>?_,fun j hj=>?_⟩
 ·have hj':j<k/8:=by have:j<(qd5 T0 l k).length:=hj;rwa[qbS]at this
  show(gky (qd5 T0 l k) j).after<=(l.take k).length/\(gky (qd5 T0 l k) j).state=qN (qa3 T0 (l.take k) (gky (qd5 T0 l k) j).after)
  rw[qdP T0 l hj',hn,qnu T0 l (by dsimp only;omega) hk]
  exact⟨by dsimp only;omega,rfl⟩
 ·have hj':j+1<k/8:=by have:j+1<(qd5 T0 l k).length:=hj;rwa[qbS]at this
  show(gky (qd5 T0 l k) j).after<(gky (qd5 T0 l k) (j+1)).after
  rw[qdP T0 l hj',qdP T0 l (by omega)]
  dsimp only;omega
theorem keyP_k (r:Rc)(i:Nat)(p:Pl)(h:p.k<=r.keys.length):(qcS r i p).k<=r.keys.length/\p.k<=(qcS r i p).k:=by
 unfold qcS
 split
 ·dsimp only;omega
 ·exact⟨h,Nat.le_refl _⟩
theorem evP_k (r:Rc)(i:Nat)(p:Pl):(evP r i p).k=p.k:=by unfold evP;split<;>rfl
theorem qf1 {r:Rc}(hs:r.start.length<=300000)(hk:∀j,j<r.keys.length->(gky r.keys j).state.length<=300000)(he:∀i,i<r.evs.length->evB (ge r.evs i)=true):∀i,(qC r i).k<=r.keys.length/\(qC r i).out.length<=300015+300025*(qC r i).k+465*min i r.evs.length
 |0=>⟨Nat.zero_le _,by have:=qaq 83 r.start;show(qa9 83 r.start).length<=300015+300025*0+_;omega⟩
 |i+1=>by
  obtain⟨h1,h2⟩:=qf1 hs hk he i
  obtain⟨h3,h4⟩:=keyP_k r i (qC r i) h1
  have h5:(qcS r i (qC r i)).out.length<=300015+300025*(qcS r i (qC r i)).k+465*min i r.evs.length:=by
   unfold qcS
   split
   ·rename_i hc
    dsimp only
    have:=qaq 75 (qQ (gky r.keys (qC r i).k))
    have:=qdO (gky r.keys (qC r i).k)
    have:=hk _ hc.1
    rw[List.length_append];omega
   ·exact h2
  show(evP r i (qcS r i (qC r i))).k<=_/\(evP r i (qcS r i (qC r i))).out.length<=300015+300025*(evP r i (qcS r i (qC r i))).k+_
  rw[evP_k]
  refine⟨h3,?_⟩
  unfold evP
  split
  ·rename_i hc
   dsimp only
   have:=qaq 69 (evI (qZ r.evs i) (ge r.evs i))
   have:=qe5 (fr:=qZ r.evs i) (he i hc)
   rw[List.length_append];omega
  ·omega
theorem rcb_of {r:Rc}(hs:qaA r.start/\r.start.length<=300000)(hk:∀j,j<r.keys.length->qaA (gky r.keys j).state/\(gky r.keys j).state.length<=300000/\(gky r.keys j).after<=100000000)(he:EvsOk r.evs)(h1:r.keys.length<=300)(h2:r.evs.length<=3000):RcB r:=by
 refine⟨⟨hs.1,by omega⟩,fun j hj=>⟨(hk j hj).1,by have:=(hk j hj).2.1;omega,(hk j hj).2.2⟩,fun i hi=>⟨he.evb i hi,he.tm i hi⟩,fun i=>?_⟩
 obtain⟨g1,g2⟩:=qf1 hs.2 (fun j hj=>(hk j hj).2.1) he.evb i
 omega
theorem recB_b {T0:TS}{l:List Ev}(h:OkS T0)(hl:EvsOk l){k:Nat}(hk:k<=l.length)(hn:k<=2400):RcB (qdU T0 l k):=by
 have hd:=h.dec
 refine rcb_of ⟨qd1 hd,qcg hd⟩ (fun j hj=>?_) (hl.take k) (by show(qd5 T0 l k).length<=300;rw[qbS];omega) (by show(l.take k).length<=3000;rw[List.length_take];omega)
 have hj':j<k/8:=by have:j<(qd5 T0 l k).length:=hj;rwa[qbS]at this
 show qaA (gky (qd5 T0 l k) j).state/\(gky (qd5 T0 l k) j).state.length<=300000/\(gky (qd5 T0 l k) j).after<=100000000
 rw[qdP T0 l hj']
 have hd2:=(h.fold hl (8*(j+1)) (by omega)).dec
 exact⟨qd1 hd2,qcg hd2,by dsimp only;omega⟩
theorem recB_len {T0:TS}{l:List Ev}(h:OkS T0)(hl:EvsOk l){k:Nat}(hk:k<=l.length)(hn:k<=80):(qI (qdU T0 l k)).out.length<=3500000:=by
 have hd:=h.dec
 have hkl:(qdU T0 l k).keys.length=k/8:=qbS T0 l k
 have hel:(qdU T0 l k).evs.length=k:=by show(l.take k).length=k;rw[List.length_take];omega
 obtain⟨g1,g2⟩:=qf1 (r:=qdU T0 l k) (qcg hd) (fun j hj=>by
  rw[hkl]at hj
  show(gky (qd5 T0 l k) j).state.length<=300000
  rw[qdP T0 l hj]
  exact qcg (h.fold hl (8*(j+1)) (by omega)).dec) (hl.take k).evb ((qdU T0 l k).evs.length+1)
 have e:(qI (qdU T0 l k)).out=(qC (qdU T0 l k) ((qdU T0 l k).evs.length+1)).out:=rfl
 rw[e]
 rw[hkl]at g1
 rw[hel]at g2
 rw[hel]at g1⊢
 omega
theorem qdA {c:Int}{b:List Int}(hc:0<=c/\c<=255)(h:qaA b)(hl:b.length<2^63):qaA (qa9 c b):=qbC (qks hc h) (by rw[List.length_cons];omega)
theorem qi4 {r:Rc}(hW:RcB r):∀i,qaA (qC r i).out
 |0=>qdA (by decide) hW.st.1 (by have:=hW.st.2;omega)
 |i+1=>by
  have ih:=qi4 hW i
  have h1:qaA (qcS r i (qC r i)).out:=by
   unfold qcS
   split
   ·rename_i hc
    obtain⟨k1,k2,k3⟩:=hW.ks _ hc.1
    exact qj ih (qdA (by decide) (qj (qo (by omega)) k1) (by have:=qdO (gky r.keys (qC r i).k);omega))
   ·exact ih
  show qaA (evP r i (qcS r i (qC r i))).out
  unfold evP
  split
  ·rename_i hc
   obtain⟨e1,e2,e3⟩:=hW.ev i hc
   exact qj h1 (qdA (by decide) (qeV e1 e2) (by have:=qe5 (fr:=qZ r.evs i) e1;omega))
  ·exact h1
theorem qgc {r:Rc}:(qI r).pos.length<=r.keys.length:=by
 have h1:=(pl_k r (r.evs.length+1)).1
 have h2:=(pl_a r (r.evs.length+1) (Nat.le_refl _)).1
 show(qC r (r.evs.length+1)).pos.length<=_
 omega
theorem qj1 {r:Rc}(hW:RcB r)(hk:r.keys.length<=10000000)(whole:Bool):qaA (qc8 r whole):=by
 have h1:=qi4 hW (r.evs.length+1)
 unfold qc8
 split
 ·refine qj h1 ?_
  have hp:=pl_p hW (r.evs.length+1)
  have hl:=qgc (r:=r)
  have ha:=pl_a r (r.evs.length+1) (Nat.le_refl _)
  have hpk:=(pl_k r (r.evs.length+1)).1
  have hpk:(qI r).pos.length=(qC r (r.evs.length+1)).k:=hpk
  refine qj (qdA (by decide) (qiV hW hp hl hk (fun j hj=>?_) _ (Nat.le_refl _)) ?_) (qdA (by decide) (fun x hx=>?_) (show 4<2^63 by decide))
  ·have:=ha.2 j (by omega)
   exact⟨this,(hW.tm this).2⟩
  ·have:=qgW r (qI r).pos (qI r).pos.length
   omega
  ·simp only[List.mem_cons,List.not_mem_nil,or_false]at hx
   rcases hx with rfl|rfl|rfl|rfl<;>exact qiO _
 ·exact h1
theorem qmp {T0:TS}{l:List Ev}(h:OkS T0)(hl:EvsOk l){k:Nat}(hk:k<=l.length)(hn:k<=80)(whole:Bool):(qc8 (qdU T0 l k) whole).length<=4000000:=by
 have h1:=recB_len h hl hk hn
 have h2:=qgX (qdU T0 l k) (((qI (qdU T0 l k)).out.length:Nat):Int) (qI (qdU T0 l k)).pos
 have h3:=qgc (r:=qdU T0 l k)
 have h4:(qdU T0 l k).keys.length=k/8:=qbS T0 l k
 unfold qc8
 split
 ·rw[List.length_append];omega
 ·omega
theorem qq4 {r:Rc}(hW:RcB r):∀f∈(frK r (r.evs.length+1)).1,f.length<2^64:=fun f hf=>by
 have h1:=hW.ln (r.evs.length+1)
 rw[(qiT r (r.evs.length+1)).1,List.length_append]at h1
 have h2:(qaa f).length<=(qck (frK r (r.evs.length+1)).1).length:=by
  obtain⟨a,b,e⟩:=List.append_of_mem hf
  rw[e]
  simp[qck]
  omega
 have:=qbR f
 omega
theorem next_nil:(qaV []).2=0:=by
 have:=ql5 (l:=[])
 simpa using this
theorem qnv (r:Rc)(n:Int)(ps:List Int)(hl:ps.length<=10000000):∃q,(qaV (qcu r n ps)).1=73::q:=by
 have h:=qgW r ps ps.length
 refine⟨qha r ps ps.length,?_⟩
 unfold qcu qa9
 rw[qfp _ (by rw[List.length_cons];omega)]
theorem qh3 {dec:List Int->Option TS}{T0:TS}{r:Rc}(h:RcOk T0 r)(hW:RcB r)(hd:dec r.start=some T0)(hk:r.keys.length<=10000000)(whole:Bool):qfr dec (qc8 r whole)=some (⟨r,qa3 T0 r.evs r.evs.length⟩,(qc8 r false).length):=by
 have e0:qc8 r false=(qI r).out:=if_neg Bool.false_ne_true
 have hs:=hW.st.2
 rw[e0]
 cases whole with
 |false=>
  rw[e0]
  have:=qmh (dec:=dec) h hd (by omega) (qq4 hW) [] (.inl next_nil)
  rwa[List.append_nil]at this
 |true=>
  rw[show qc8 r true=(qI r).out++qcu r (((qI r).out.length:Nat):Int) (qI r).pos from if_pos rfl]
  obtain⟨q,hq⟩:=qnv r (((qI r).out.length:Nat):Int) (qI r).pos (by have:=qgc (r:=r);omega)
  exact qmh h hd (by omega) (qq4 hW) _ (.inr (by rw[hq];exact qmk (by decide) (by decide)))
theorem dec_encR {dec:List Int->Option TS}{T0:TS}{r:Rc}(h:RcOk T0 r)(hW:RcB r)(hd:dec r.start=some T0)(hk:r.keys.length<=10000000)(whole:Bool):qbX dec (qc8 r whole)=some ⟨r,qa3 T0 r.evs r.evs.length⟩:=by
 unfold qbX
 rw[qh3 h hW hd hk whole]
 refine if_neg fun hh=>?_
 cases whole with
 |false=>exact absurd hh.1 (Nat.lt_irrefl _)
 |true=>exact hh.2 rfl
theorem qak {w:World}{b o:Nat}{l:List Ev}(h:Rd w (some ⟨b,o,none⟩) (evsV l))(x:Int)(q j:Nat)(v:Value)(hx:x.toNat=q:=by omega)(hq:q<l.length:=by omega)(hv:(ge l q).vals[j]? =some v:=by rfl)(hj:j<5:=by decide):w.cell? ⟨b,o+x.toNat*5+j,none⟩=some v:=by
 have:=h.2 ⟨b,o,none⟩ rfl (q*5+j) v ((qiU _ _ _ hq hj).trans hv)
 rw[qb7]at this
 rw[hx,Nat.add_assoc];exact this
section
variable {w0 w:World}{F0:Nat->Prop}{l:List Asn}{b sb:Nat}{r:Rc}{x:ScX}{tl:List Value}{T:TypeId}
theorem Sep.rcx (h:Sep w0 F0 w l)(k:Nat)(x:ScX)(tl:List Value)(T:TypeId)(h0:l[k]? =some (qbr b (recC x r tl) T):=by rfl)(h1:l[k+1]? =some (qaz tEv 5 x.eo r.evs.length x.ec (evsV r.evs)):=by rfl)(h2:l[k+2]? =some (qaz qgS 2 x.ko r.keys.length x.kc (qaL x.kx r.keys 0)):=by rfl)(h3:l[k+3]? =some (roA (roL x r)):=by rfl)(h4:l[k+4]? =some (qdT (ScOk x r)):=by rfl):RcRd w b x.sa x.sn x.sc x.eo x.ec x.ko x.kc x.kx r:=by
 have hp:=h.pure (k+4) h4
 have hr:=h.ro (k+3) h3
 have hb:=h.b k h0
 refine⟨hb.c 0 rfl,hb.c 1 rfl,hb.c 2 rfl,hr (x.sa,r.start) (List.mem_cons_self ..),hp.sl,hp.sz,(h.own (k+1) h1).rd,(h.own (k+2) h2).rd,hp.en,fun i hi=>⟨hr ((x.kx i).1,(gky r.keys i).state) (List.mem_cons_of_mem _ (List.mem_map.2 ⟨i,List.mem_range.2 hi,rfl⟩)),hp.kl i hi⟩⟩
end
theorem addB_len {r:Rc}{U:TS}{e:Ev}(hO:OkS U)(hB:evB e=true):(addB ⟨r,U⟩ e).length<=301000:=by
 have h1:=qaq 69 (evI (qae r.evs) e)
 have h2:=qe5 (fr:=qae r.evs) hB
 have h3:=qaq 75 (qQ ⟨r.evs.length+1,qN (qU U e)⟩)
 have h4:=qdO ⟨r.evs.length+1,qN (qU U e)⟩
 have h5:(qN (qU U e)).length<=300000:=qcg (hO.ap hB).dec
 dsimp only at h4
 unfold addB
 dsimp only
 split
 ·rw[List.length_append];omega
 ·omega
section
variable {w0 w w':World}{F0:Nat->Prop}{l:List Asn}{b sb:Nat}
theorem Sep.outRec {q:Fl}{qu lf:Int}{s:Sc}(h:Sep w0 F0 w l)(i:Nat)(hi:l[i]? =some (logA b sb q qu lf s):=by rfl):∃x tl,Sep w0 F0 w (recL b s.r x tl qw):=by
 have h:=h.only hi fun _ h=>h
 obtain⟨_,h⟩:=h.unpack 0
 obtain⟨x,h⟩:=h.unpack 2
 exact⟨x,wrC sb x.t,(h.ord [3,4,5,6,7]).eqv⟩
theorem Sep.outScan {s:Sc}(h:Sep w0 F0 w l)(i:Nat)(hi:l[i]? =some (qe8 b s):=by rfl):∃x tl,Sep w0 F0 w (recL b s.r x tl qfQ):=by
 have h:=h.only hi fun _ h=>h
 obtain⟨x,h⟩:=h.unpack 0
 exact⟨x,[.pointer (some ⟨x.t,0,none⟩)],(h.ord [1,2,3,4,5]).eqv⟩
theorem NewA.scan {s:Sc}(h:NewA (qe8 b s) w w'):∃x tl,Sep w (fun _=>False) w' (recL b s.r x tl qfQ):=((Sep.nil w).addN h).outScan 0
end
structure Plan where
 p1:Int
 p2:Int
 ea:Option Addr
 en:Nat
 ec:Nat
 l:List Ev
 ma:Option Addr
 mn:Nat
 mc:Nat
 ms:List Int
def Plan.val (p:Plan):Value:= .agg #[.int .i64 p.p1,.int .i64 p.p2,.slice p.ea p.en p.ec,.slice p.ma p.mn p.mc]
structure PlanIn (w:World)(p:Plan):Prop where
 er:Rd w p.ea (evsV p.l)
 el:p.l.length=p.en
 ez:p.en=0\/ ∃b off,p.ea=some ⟨b,off,none⟩
 mr:Rd w p.ma (p.ms.map (Value.int .i64))
 ml:p.ms.length=p.mn
 mz:p.mn=0\/ ∃b off,p.ma=some ⟨b,off,none⟩
 eb:p.en<=9223372036854775807
 mb:p.mn<=9223372036854775807
theorem PlanIn.ch {w w':World}{p:Plan}(h:PlanIn w p)(hc:Ch (fun _=>False) w w'):PlanIn w' p:={h with er:=h.er.ch hc fun _ _ h=>h,mr:=h.mr.ch hc fun _ _ h=>h}
def Plan.T0 (p:Plan):TS:=startT zeroT p.p1 p.p2
theorem Plan.ok (p:Plan):OkS p.T0:=OkS.start p.p1 p.p2
abbrev Plan.t (p:Plan):List Ev:=tameL p.l
theorem Plan.tok {p:Plan}(h:p.l.length<=40):EvsOk p.t/\p.t.length=p.l.length:=⟨(qj0 p.l p.l.length (by omega)).1,qkw _ _⟩
theorem ev_eqB (a b:Ev):((a.time==b.time)&&((a.kind==b.kind)&&(((a.data).toList==(b.data).toList)&&((a.w==b.w)&&((a.h==b.h)&&true)))))=true↔a=b:=by
 obtain⟨t,k,d,w,h⟩:=a;obtain⟨t',k',d',w',h'⟩:=b;dsimp only;simp only[Bool.and_eq_true,beq_iff_eq,Bool.and_true,Ev.mk.injEq];constructor
 ·rintro ⟨c,e,f,g,i⟩;exact⟨c,e,qhI (beq_iff_eq.2 f),g,i⟩
 rintro ⟨c,e,f,g,i⟩;exact⟨c,e,by rw[f],g,i⟩
theorem evs_ext {a b:List Ev}(hl:a.length=b.length)(h:∀i,i<a.length->ge a i=ge b i):a=b:=by
 refine List.ext_getElem hl fun i c d=>?_;have:=h i c;unfold ge at this;rw[List.getD_eq_getElem?_getD,List.getD_eq_getElem?_getD,List.getElem?_eq_getElem c,List.getElem?_eq_getElem d]at this;exact this
theorem tame_any (a:Option Addr)(n cap:Nat)(l:List Ev)(w:World)(hr:Rd w a (evsV l))(hn:l.length=n)(hz:n=0\/ ∃b off,a=some ⟨b,off,none⟩)(hm:n<=1000):Calls Tryz.prog 47 [.slice a n cap].toArray w fun e w'=> ∃o c',e= .returned (.slice (o.map at0) n c')/\Sep w (fun _=>False) w' [qaz tEv 5 o n c' (evsV (tameL l))]:=by
 have h:=Sep.nil w;refine yA Tryz.func47 rfl<|yx 1<|yx 1<|yx 1<|ys<|yx 1<|qa<|qT [0,3,4,5] (f':=[(0,.slice a n cap),(3,nX),(4,iX 0),(5,iX 0)])<|qx (σ:=Nat×Int×Option Nat×Nat) (fun⟨k,tt,o,c⟩=>[(0,.slice a n cap),(3,.slice (o.map at0) k c),(4,iX tt),(5,iX ((k:Nat):Int))]) (fun⟨k,tt,o,c⟩ u=>k<=n/\tt=qae (qb2 l k)/\Sep w (fun _=>False) u [qaz tEv 5 o k c (evsV (qb2 l k))]) (fun⟨k,tt,o,c⟩=>n-k) (0,0,none,0) rfl ?_ ?_
 ·exact⟨Nat.zero_le _,rfl,h.own0 tEv 5⟩
 intro q u x N g;obtain⟨k,tt,o,c⟩:=q;obtain⟨hk,d,h⟩:=x;refine ys<|yx 4<|yc (rL ((k:Nat):Int) ((n:Nat):Int)) (fun p=>?_) fun p=>?_
 ·have O:=p;obtain⟨b,off,rfl⟩:=hz.resolve_left (by omega);have v:=qj0 l k (by omega);have P:=v.2;have Q:=v.1.last.1;have R:=andT (ge l k).time;have S:=andS (ge l k).w;have T:=andS (ge l k).h;refine yk<|ys<|qa<|ysr<|yp 4 [] (.i ((k:Nat):Int) (n) (.m (qak (hr.ch h.ch fun _ _ h=>h) (((k:Nat):Int)) k 0 _) (.m (qak (hr.ch h.ch fun _ _ h=>h) (((k:Nat):Int)) k 1 _) (.m (qak (hr.ch h.ch fun _ _ h=>h) (((k:Nat):Int)) k 2 _) (.m (qak (hr.ch h.ch fun _ _ h=>h) (((k:Nat):Int)) k 3 _) (.m (qak (hr.ch h.ch fun _ _ h=>h) (((k:Nat):Int)) k 4 _) (.e .z)))))))<|yo (zN [iX 0,iX 0,oX,iX 0,iX 0] 66 h fun u U h=>?_);refine yo (zs h 1 fun u h=>?_);refine ye<|ysr<|yp 4 [] (.l (h.c 1 1) .z)<|yo (zs h 1 fun u h=>?_);refine ye<|ysr<|yp 6 [] (.l (h.c 1 0) (.q6 (tt+(qe .and .i64 (ge l k).time 65535)) .z))<|yo (zs h 1 fun u h=>?_);refine ye<|ysr<|yp 3 [] (.l (h.c 1 0) .z)<|ye<|ys<|ysr<|yp 4 [] (.l (h.c 1 2) .z)<|ye<|yc (rL 400 (((ge l k).data).size:Int)) (fun r=>?_) fun r=>?_
  ·have y:=r;refine q7<|yp 4 [] (.l (h.c 1 2) (.j 400 (((ge l k).data).size) .z))<|yo (zs h 1 fun u h=>?_);refine ye<|ys<|ysr<|yp 3 [] (.l (h.c 1 1) .z)<|ye<|yc (rE (qe .and .i64 (ge l k).kind 3) 2) (fun s=>?_) fun s=>?_
   ·have A:=s;refine ysr<|yq 1<|yo (zs h 1 fun u h=>?_);refine ye<|ysr<|yp 5 [] (.l (h.c 1 3) (.q6 ((qe .and .i64 (ge l k).w 127)+1) .z))<|yo (zS h 1 [iX (tt+(qe .and .i64 (ge l k).time 65535)),iX (qe .and .i64 (ge l k).kind 3),oX,iX ((qe .and .i64 (ge l k).w 127)+1),iX (ge l k).h] fun u h=>?_);refine ye<|q7<|yp 5 [] (.l (h.c 1 4) (.q6 ((qe .and .i64 (ge l k).h 127)+1) .z))<|yo (zs h 1 fun u h=>?_);refine ye<|q7<|yp 2 [] (.a (h.cs 1 0 5) .z)<|yo (zB [iX (tt+(qe .and .i64 (ge l k).time 65535)),iX (qe .and .i64 (ge l k).kind 3),oX,iX ((qe .and .i64 (ge l k).w 127)+1),iX ((qe .and .i64 (ge l k).h 127)+1)] 66 1 h fun u V h=>?_);have h:=h.nrm 1 [iX (tt+(qe .and .i64 (ge l k).time 65535)),iX (qe .and .i64 (ge l k).kind 3),oX,iX ((qe .and .i64 (ge l k).w 127)+1),iX ((qe .and .i64 (ge l k).h 127)+1)];have f:qcC tt (ge l k)=⟨(tt+(qe .and .i64 (ge l k).time 65535)),(qe .and .i64 (ge l k).kind 3),ByteArray.empty,((qe .and .i64 (ge l k).w 127)+1),((qe .and .i64 (ge l k).h 127)+1)⟩:=by unfold qcC;rw[if_pos A]<;>rfl
    refine yo (zA 0 48 1 1 (k+1) (evsV (qb2 l (k+1))) h (Rd.all (h.b 2)) rfl (hz:=by rw[show qb2 l (k+1)=qb2 l k++[qcC tt (ge l k)] by rw[d];rfl,qd3,f];rfl) fun u B C h W=>?_);refine yq 5<|yE (nB (nS ?_));refine q7<|yp 3 [] (.q6 (((k:Nat):Int)+1) .z)<|yE (fun a ha=>g (k+1,(tt+(qe .and .i64 (ge l k).time 65535)),B,C) _ ⟨by omega,by rw[show qb2 l (k+1)=qb2 l k++[qcC (qae (qb2 l k)) (ge l k)]from rfl,qcV,qc9,<-d],h.take 1⟩ (by show n-(k+1)<n-k;omega) a (ha.kp [0,3,4,5]))
   have D:=s;refine ysr<|yq 1<|yo (zs h 1 fun u h=>?_);refine ye<|q7<|yq 1<|yo (zS h 1 [iX (tt+(qe .and .i64 (ge l k).time 65535)),iX (qe .and .i64 (ge l k).kind 3),.string (((ge l k).data).extract 0 (400:Int).toNat),iX 0,iX 0] fun u h=>?_);refine ye<|q7<|yp 2 [] (.a (h.cs 1 0 5) .z)<|yo (zB [iX (tt+(qe .and .i64 (ge l k).time 65535)),iX (qe .and .i64 (ge l k).kind 3),.string (((ge l k).data).extract 0 (400:Int).toNat),iX 0,iX 0] 66 1 h fun u X h=>?_);have f:qcC tt (ge l k)=⟨(tt+(qe .and .i64 (ge l k).time 65535)),(qe .and .i64 (ge l k).kind 3),(((ge l k).data).extract 0 (400:Int).toNat),0,0⟩:=by unfold qcC;rw[if_neg D];unfold cut4;rw[if_pos y]<;>rfl
   refine yo (zA 0 48 1 1 (k+1) (evsV (qb2 l (k+1))) h (Rd.all (h.b 2)) rfl (hz:=by rw[show qb2 l (k+1)=qb2 l k++[qcC tt (ge l k)] by rw[d];rfl,qd3,f];rfl) fun u E F h Y=>?_);refine yq 5<|yE (nB (nS ?_));refine q7<|yp 3 [] (.q6 (((k:Nat):Int)+1) .z)<|yE (fun a ha=>g (k+1,(tt+(qe .and .i64 (ge l k).time 65535)),E,F) _ ⟨by omega,by rw[show qb2 l (k+1)=qb2 l k++[qcC (qae (qb2 l k)) (ge l k)]from rfl,qcV,qc9,<-d],h.take 1⟩ (by show n-(k+1)<n-k;omega) a (ha.kp [0,3,4,5]))
  have G:=r;refine yk<|ys<|ysr<|yp 3 [] (.l (h.c 1 1) .z)<|ye<|yc (rE (qe .and .i64 (ge l k).kind 3) 2) (fun t=>?_) fun t=>?_
  ·have H:=t;refine ysr<|yq 1<|yo (zs h 1 fun u h=>?_);refine ye<|ysr<|yp 5 [] (.l (h.c 1 3) (.q6 ((qe .and .i64 (ge l k).w 127)+1) .z))<|yo (zs h 1 fun u h=>?_);refine ye<|q7<|yp 5 [] (.l (h.c 1 4) (.q6 ((qe .and .i64 (ge l k).h 127)+1) .z))<|yo (zS h 1 [iX (tt+(qe .and .i64 (ge l k).time 65535)),iX (qe .and .i64 (ge l k).kind 3),oX,iX ((qe .and .i64 (ge l k).w 127)+1),iX ((qe .and .i64 (ge l k).h 127)+1)] fun u h=>?_);refine ye<|q7<|yp 2 [] (.a (h.cs 1 0 5) .z)<|yo (zB [iX (tt+(qe .and .i64 (ge l k).time 65535)),iX (qe .and .i64 (ge l k).kind 3),oX,iX ((qe .and .i64 (ge l k).w 127)+1),iX ((qe .and .i64 (ge l k).h 127)+1)] 66 1 h fun u Z h=>?_);have f:qcC tt (ge l k)=⟨(tt+(qe .and .i64 (ge l k).time 65535)),(qe .and .i64 (ge l k).kind 3),ByteArray.empty,((qe .and .i64 (ge l k).w 127)+1),((qe .and .i64 (ge l k).h 127)+1)⟩:=by unfold qcC;rw[if_pos H]<;>rfl
   refine yo (zA 0 48 1 1 (k+1) (evsV (qb2 l (k+1))) h (Rd.all (h.b 2)) rfl (hz:=by rw[show qb2 l (k+1)=qb2 l k++[qcC tt (ge l k)] by rw[d];rfl,qd3,f];rfl) fun u I J h a0=>?_);refine yq 5<|yE (nB (nS ?_));refine q7<|yp 3 [] (.q6 (((k:Nat):Int)+1) .z)<|yE (fun a ha=>g (k+1,(tt+(qe .and .i64 (ge l k).time 65535)),I,J) _ ⟨by omega,by rw[show qb2 l (k+1)=qb2 l k++[qcC (qae (qb2 l k)) (ge l k)]from rfl,qcV,qc9,<-d],h.take 1⟩ (by show n-(k+1)<n-k;omega) a (ha.kp [0,3,4,5]))
  have K:=t;refine ysr<|yq 1<|yo (zs h 1 fun u h=>?_);refine ye<|q7<|yq 1<|yo (zs h 1 fun u h=>?_);refine ye<|q7<|yp 2 [] (.a (h.cs 1 0 5) .z)<|yo (zB [iX (tt+(qe .and .i64 (ge l k).time 65535)),iX (qe .and .i64 (ge l k).kind 3),.string (ge l k).data,iX 0,iX 0] 66 1 h fun u a1 h=>?_);have h:=h.nrm 1 [iX (tt+(qe .and .i64 (ge l k).time 65535)),iX (qe .and .i64 (ge l k).kind 3),.string (ge l k).data,iX 0,iX 0];have f:qcC tt (ge l k)=⟨(tt+(qe .and .i64 (ge l k).time 65535)),(qe .and .i64 (ge l k).kind 3),(ge l k).data,0,0⟩:=by unfold qcC;rw[if_neg K];unfold cut4;rw[if_neg G]<;>rfl
  refine yo (zA 0 48 1 1 (k+1) (evsV (qb2 l (k+1))) h (Rd.all (h.b 2)) rfl (hz:=by rw[show qb2 l (k+1)=qb2 l k++[qcC tt (ge l k)] by rw[d];rfl,qd3,f];rfl) fun u L M h a2=>?_);refine yq 5<|yE (nB (nS ?_));refine q7<|yp 3 [] (.q6 (((k:Nat):Int)+1) .z)<|yE (fun a ha=>g (k+1,(tt+(qe .and .i64 (ge l k).time 65535)),L,M) _ ⟨by omega,by rw[show qb2 l (k+1)=qb2 l k++[qcC (qae (qb2 l k)) (ge l k)]from rfl,qcV,qc9,<-d],h.take 1⟩ (by show n-(k+1)<n-k;omega) a (ha.kp [0,3,4,5]))
 have a3:=p;refine ql (eS (qd (qb (nS ?_))));refine yx 2<|q9 (yR1 (.slice (o.map at0) k c) ?_);obtain rfl:n=k:=by omega
 exact⟨_,_,rfl,by rw[show tameL l=qb2 l n by rw[<-hn]];exact h⟩
theorem qfw (a a2:Option Addr)(n m c c2:Nat)(l l2:List Ev)(w:World)(hr:Rd w a (evsV l))(hr2:Rd w a2 (evsV l2))(hn:l.length=n)(hm:l2.length=m)(hz:n=0\/ ∃b off,a=some ⟨b,off,none⟩)(hz2:m=0\/ ∃b off,a2=some ⟨b,off,none⟩)(hb:n<=10000000)(hb2:m<=9223372036854775807):Calls Tryz.prog 17 [.slice a n c,.slice a2 m c2].toArray w fun e w'=> ∃r:Bool,e= .returned (.bool r)/\(r=true↔l=l2)/\Ch (fun _=>False) w w':=by
 have h:=Sep.nil w;refine yA Tryz.func17 rfl<|yx 1<|ys<|yx 5<|yc (rI ((n:Nat):Int) ((m:Nat):Int)) (fun d=>?_) fun d=>?_
 ·have v:=d;refine yx 1<|q9 (rS (yR1 (.bool false) ?_));exact⟨_,rfl,⟨fun e=>(by cases e),fun e=>absurd (congrArg List.length e) (by omega)⟩,h.ch⟩
 have x:=d;refine yk<|ys<|yx 1<|qa<|qT [0,1,5] (f':=[(0,.slice a n c),(1,.slice a2 m c2),(5,iX 0)])<|qx (σ:=Nat) (fun k=>[(0,.slice a n c),(1,.slice a2 m c2),(5,iX ((k:Nat):Int))]) (fun k u=>k<=n/\(∀j,j<k->ge l j=ge l2 j)/\Sep w (fun _=>False) u []) (fun k=>n-k) 0 rfl ?_ ?_
 ·exact⟨Nat.zero_le _,fun j hj=>absurd hj (Nat.not_lt_zero j),h.take 0⟩
 intro k u p y q;obtain⟨hk,hE,h⟩:=p;refine ys<|yx 4<|yc (rL ((k:Nat):Int) ((n:Nat):Int)) (fun f=>?_) fun f=>?_
 ·have A:=f;obtain⟨B,C,rfl⟩:=hz.resolve_left (by omega);obtain⟨D,E,rfl⟩:=hz2.resolve_left (by omega);refine yk<|ys<|qa<|ys<|zD [] h fun u h=>yd (uL 0 9) [] (.i ((k:Nat):Int) (n) (.m (qak (hr.ch h.ch fun _ _ h=>h) (((k:Nat):Int)) k 0 _) (.m (qak (hr.ch h.ch fun _ _ h=>h) (((k:Nat):Int)) k 1 _) (.m (qak (hr.ch h.ch fun _ _ h=>h) (((k:Nat):Int)) k 2 _) (.m (qak (hr.ch h.ch fun _ _ h=>h) (((k:Nat):Int)) k 3 _) (.m (qak (hr.ch h.ch fun _ _ h=>h) (((k:Nat):Int)) k 4 _) (.e (.i ((k:Nat):Int) (m) (.m (qak (hr2.ch h.ch fun _ _ h=>h) (((k:Nat):Int)) k 0 _) (.m (qak (hr2.ch h.ch fun _ _ h=>h) (((k:Nat):Int)) k 1 _) (.m (qak (hr2.ch h.ch fun _ _ h=>h) (((k:Nat):Int)) k 2 _) (.m (qak (hr2.ch h.ch fun _ _ h=>h) (((k:Nat):Int)) k 3 _) (.m (qak (hr2.ch h.ch fun _ _ h=>h) (((k:Nat):Int)) k 4 _) (.e .z))))))))))))))<|yDe (nS ?_);refine yc (rN (rY ((((ge l k).time:Int)==(ge l2 k).time)&&((((ge l k).kind:Int)==(ge l2 k).kind)&&((((ge l k).data).toList==((ge l2 k).data).toList)&&((((ge l k).w:Int)==(ge l2 k).w)&&((((ge l k).h:Int)==(ge l2 k).h)&&true))))))) (fun g=>?_) fun g=>?_
  ·have s:=g;refine yx 1<|q9 (rB (rS (qt (rB (rS (yR1 (.bool false) ?_))))));exact⟨_,rfl,⟨fun e=>(by cases e),fun e=>absurd ((ev_eqB (ge l k) (ge l2 k)).2 (by rw[e])) (Bool.eq_false_iff.1 s)⟩,h.ch⟩
  have t:=g;refine qk (nB (nS ?_));refine q7<|yp 3 [] (.q6 (((k:Nat):Int)+1) .z)<|yE (fun a ha=>q (k+1) _ ⟨by omega,fun j hj=>(Nat.lt_or_ge j k).elim (fun o=>hE j o) fun o=>by(obtain rfl:j=k:=by omega);exact(ev_eqB _ _).1 t,h.take 0⟩ (by show n-(k+1)<n-k;omega) a (ha.kp [0,1,5]))
 have F:=f;refine ql (eS (qd (qb (nS ?_))));refine yx 1<|q9 (yR1 (.bool true) ?_);exact⟨_,rfl,⟨fun _=>evs_ext (by omega) fun i hi=>hE i (by omega),fun _=>rfl⟩,h.ch⟩
end Go.Proofs.YtjjcnhgpccancaaGreatDoor.X
