/- What the proofs of LogFinishes need, part 5: the walks of the program's functions and the plain laws about them. -/
import Derived.Test.YtjjcnhgpccancaaGreatDoorQF4
set_option linter.unusedSimpArgs false
set_option linter.unusedVariables false
set_option maxHeartbeats 4000000
namespace Go.Proofs.YtjjcnhgpccancaaGreatDoor.X
open Go Go.RowKit Go.Proofs.YtjjcnhgpccancaaGreatDoor
theorem rdr_len0 {us:List Int}{n:Nat}(h:us.length=n)(hk:¬(((qa6 us).2:Nat):Int)=0):n≠0:=by
 rintro rfl;obtain rfl:=iy h;exact hk rfl
theorem qmj {rv D:Nat}{s0 s1:RS}{lim x:Int}{w:World}(hA:RdrAt w rv D s0)(hN:qP lim s0=(x,s1))(hlim:lim<=9223372036854775807):CP 94 [pX rv,iX lim].toArray w fun e w'=>e= .returned (iX x)/\RdrX w' rv D s1/\Ch (· =rv) w w':=by
 obtain⟨a,n,b,us,g,hI,rfl⟩:=hA;refine yA Tryz.func94 rfl<|yx 1<|ysr<|yp 4 [] (.l (hI.blk.c 0) .z)<|yo (yQ (qmi a n b us _ hI.rd hI.len (hI.z.imp (fun h=>h.1) (fun h=>⟨_,h⟩)) hI.byt (by have:=hI.big;omega)) fun G u=>?_);have f:Ch (· =rv) w G:=zt (Ch.refl (· =rv) w) u eZ;have d:=hI.blk.ch u id;refine yz 10<|ys<|ysr<|yp 5 [] (.l (d.c 1) .z)<|yw [19] (rY g) (fun k=>?_) fun k=>?_
 ·have H:=k;refine yz 22<|yct<|ysr<|yq 3<|yo (yT [.slice a n b,.bool true] d fun I J K=>?_);have v:Ch (· =rv) w I:=zt f K iZ;refine ye<|yx 1<|q9 (rS (yR1 (iX 0) ?_));subst H;rw[numR_bad]at hN;obtain⟨rfl,rfl⟩:=iC hN;exact⟨rfl,hI.spoil v J,v⟩
 have y:=k;refine yq 9<|yw [23] (rE (((qa6 us).2:Nat):Int) 0) (fun m=>?_) fun m=>?_
 ·have a1:=m;refine yz 22<|yct<|ysr<|yq 3<|yo (yT [.slice a n b,.bool true] d fun L M N=>?_);have A:Ch (· =rv) w L:=zt f N iZ;refine ye<|yx 1<|q9 (rS (yR1 (iX 0) ?_));rw[qld (.inl (by omega))]at hN;obtain⟨rfl,rfl⟩:=iC hN;exact⟨rfl,hI.spoil A M,A⟩
 have O:=m;have o:=(qm8 hI.byt).1;rw[hI.len]at o;obtain⟨ao,rfl⟩:=hI.some (rdr_len0 hI.len O);refine yq 13<|yw [27] (rL 9223372036854775807 (((qa6 us).1:Nat):Int)) (fun r=>?_) fun r=>?_
 ·have a2:=r;refine yz 22<|yct<|ysr<|yq 3<|yo (yT [.slice (some ⟨D,ao,none⟩) n b,.bool true] d fun P Q R=>?_);have B:Ch (· =rv) w P:=zt f R iZ;refine ye<|yx 1<|q9 (rS (yR1 (iX 0) ?_));rw[qld (.inr (.inl (by omega)))]at hN;obtain⟨rfl,rfl⟩:=iC hN;exact⟨rfl,hI.spoil B Q,B⟩
 have a3:=r;refine yq 16<|yw [30] (rL 0 lim) (fun s=>?_) fun s=>?_
 ·have a4:=s;refine yp 22 [18] (.p (q:=InR .u64 lim) (qao (by omega) (by omega)) .z)<|ye<|yc (rM lim (((qa6 us).1:Nat):Int)) (fun t=>?_) fun t=>?_
  ·have a5:=t;refine ysr<|yq 3<|yo (yT [.slice (some ⟨D,ao,none⟩) n b,.bool true] d fun S T U=>?_);have C:Ch (· =rv) w S:=zt f U iZ;refine ye<|yx 1<|q9 (rS (yR1 (iX 0) ?_));rw[qld (.inr (.inr ⟨by omega,by omega⟩))]at hN;obtain⟨rfl,rfl⟩:=iC hN;exact⟨rfl,hI.spoil C T,C⟩
  have a6:=t;refine yk<|ysr<|yp 9 [] (.l (d.c 0) (.j (((qa6 us).2:Nat):Int) (n) .z))<|yo (yT [.slice (some ⟨D,(if b=((((qa6 us).2:Nat):Int):Int).toNat then ao else ao+((((qa6 us).2:Nat):Int):Int).toNat*1),none⟩) (n-((((qa6 us).2:Nat):Int):Int).toNat) (b-((((qa6 us).2:Nat):Int):Int).toNat),.bool g] d fun V W X=>?_);have E:Ch (· =rv) w V:=zt f X iZ;refine ye<|ysr<|yp 3 [] (.q6 (((qa6 us).1:Nat):Int) .z)<|ye<|q9 (yR1 (iX (((qa6 us).1:Nat):Int)) ?_);obtain rfl:g=false:=y;rw[qmh (by omega) (by omega) (by omega)]at hN;obtain⟨rfl,rfl⟩:=iC hN;have i:=W;rw[il]at i;exact⟨rfl,hI.drop _ o E i,E⟩
 have a7:=s;refine yz 22<|ycf<|yk<|ysr<|yp 9 [] (.l (d.c 0) (.j (((qa6 us).2:Nat):Int) (n) .z))<|yo (yT [.slice (some ⟨D,(if b=((((qa6 us).2:Nat):Int):Int).toNat then ao else ao+((((qa6 us).2:Nat):Int):Int).toNat*1),none⟩) (n-((((qa6 us).2:Nat):Int):Int).toNat) (b-((((qa6 us).2:Nat):Int):Int).toNat),.bool g] d fun Y Z a0=>?_);have F:Ch (· =rv) w Y:=zt f a0 iZ;refine ye<|ysr<|yp 3 [] (.q6 (((qa6 us).1:Nat):Int) .z)<|ye<|q9 (yR1 (iX (((qa6 us).1:Nat):Int)) ?_);obtain rfl:g=false:=y;rw[qmh (by omega) (by omega) (by omega)]at hN;obtain⟨rfl,rfl⟩:=iC hN;have i:=Z;rw[il]at i;exact⟨rfl,hI.drop _ o F i,F⟩
theorem qa3 {rv D:Nat}{s0 s1:RS}{lim x:Int}{w:World}(hA:RdrAt w rv D s0)(hN:qP lim s0=(x,s1))(hlim:lim<=9223372036854775807):CP 94 [pX rv,iX lim].toArray w fun e w'=>e= .returned (iX x)/\RdrAt w' rv D s1/\Ch (· =rv) w w':=(qmj hA hN hlim).mono fun _ _ h=>⟨h.1,h.2.1.at,h.2.2⟩
theorem qgf {rv D:Nat}{s0:RS}{w:World}(hA:RdrAt w rv D s0):CP 95 [pX rv].toArray w (RQ (.bool s0.isSome) w):=by
 obtain⟨a,n,d,us,b,hI,rfl⟩:=hA;refine yA Tryz.func95 rfl<|yx 1<|ysr<|yp 6 [] (.l (hI.blk.c 1) .z)<|ye<|q9 (yR1 (.bool (!b)) ?_);refine⟨zc ?_,(Ch.refl _ _)⟩;unfold rsOf;cases b<;>rfl
theorem qmk {rv D:Nat}{s0:RS}{w:World}(hA:RdrAt w rv D s0):CP 65 [pX rv].toArray w (RQ (.bool (decide (s0=some []))) w):=by
 obtain⟨a,n,g,us,b,hI,rfl⟩:=hA;refine yA Tryz.func65 rfl<|yx 1<|ysr<|yp 6 [] (.l (hI.blk.c 1) .z)<|yw [8] (rN (rY b)) (fun d=>?_) fun d=>?_
 ·refine yp 14 [] (.l (hI.blk.c 0) .z)<|ye<|q9 (yR1 (.bool (((n:Int):Int)==0)) ?_);refine⟨zc ?_,(Ch.refl _ _)⟩;have f:=hI.len;unfold rsOf;cases b<;>cases us<;>simp_all<;>omega
 refine yz 14<|q9 (yR1 (xF) ?_);refine⟨zc ?_,(Ch.refl _ _)⟩;have f:=hI.len;unfold rsOf;cases b<;>cases us<;>simp_all<;>omega
theorem of_any (D:Nat)(a:Option Addr)(n cap:Nat)(us:List Int)(w:World)(hr:Rd w a (u8s us))(hl:us.length=n)(hle:n<=cap)(hz:(n=0/\cap=0)\/ ∃o,a=some ⟨D,o,none⟩)(hb:qat us)(hn:n<=100000000)(hD:D<w.heap.size):CP 63 [.slice a n cap].toArray w fun e w'=> ∃rv,e= .returned (pX rv)/\w.heap.size<=rv/\RdrAt w' rv D (some us)/\Ch (fun _=>False) w w':=by
 refine yA Tryz.func63 rfl<|yx 1<|ysr<|yq 2<|yo (yN [.slice a n cap,xF] 175 fun h d f i c g=>?_);have j:=zn f (zm w);have b:=zu (zm w) g iZ;refine yz 4<|q9 (yR1 (pX d) ?_);exact⟨_,rfl,by have:=c.lt;have:=zzs (Up.ch b);omega,⟨a,n,cap,us,false,⟨c,hr.ch (Up.ch b) iZ,hl,hle,hz,hb,by omega,hn,ic hD (zzs (Up.ch b))⟩,rfl⟩,Up.ch b⟩
theorem rd_front {w:World}{a:Option Addr}{xs ys:List Value}(h:Rd w a (xs++ys)):Rd w a xs:=
  ⟨fun e=>(List.append_eq_nil_iff.1 (h.1 e)).1,fun ad e j u hj=>h.2 ad e j u (by rw[iw (io.1 hj).1];exact hj)⟩
theorem qcU {rv D:Nat}{s0 s1:RS}{most:Int}{x:ByteArray}{w:World}(hA:RdrAt w rv D s0)(hX:qbb most s0=(x,s1))(hm:0<most/\most<=1000000):CP 92 [pX rv,iX most].toArray w fun e w'=>e= .returned (.string x)/\RdrAt w' rv D s1/\Ch (· =rv) w w':=by
 obtain⟨k,S⟩:=hm;refine yA Tryz.func92 rfl<|yx 1<|yx 1<|ys<|yx 2<|yc (rL 0 most) (fun m=>?_) fun m=>?_
 ·have T:=m;refine q7<|yp 3 [] (.q6 (most+1) .z)<|ye<|ysr<|yq 2 ?_;obtain⟨a,U,f⟩:∃x s',qP ((most+1)) s0=(x,s'):=⟨_,_,rfl⟩
  have u:=qaa (lim:=(most+1)) (s:=s0);rw[f]at u;dsimp only at u;refine yo (yQ (qmj (lim:=(most+1)) hA f (by omega)) ?_);rintro v ⟨E,F⟩;have n:Ch (· =rv) w v:=zt (Ch.refl (· =rv) w) F iZ;obtain⟨y,g,d,vs,i,b,o,G⟩:=E;refine yz 4<|ys<|ysr<|yp 5 [] (.l (b.blk.c 1) .z)<|yw [19] (rY i) (fun p=>?_) fun p=>?_
  ·have H:=p;refine yz 13<|yct<|ysr<|yq 3<|yo (yT [.slice y g d,.bool true] b.blk fun I J A=>?_);have K:Ch (· =rv) w I:=zt n A iZ;refine ye<|yx 1<|q9 (rS (yR1 (oX) ?_));unfold qbb at hX;rw[if_pos k,f]at hX;obtain rfl:i=true:=H;rw[o]at hX;obtain⟨rfl,rfl⟩:=iC hX;exact⟨rfl,(b.spoil (A) J).at,K⟩
  have q:=p;refine yp 13 [] (.l (b.blk.c 0) .z)<|ye<|yc (rL (g:Int) a) (fun r=>?_) fun r=>?_
  ·have V:=r;refine ysr<|yq 3<|yo (yT [.slice y g d,.bool true] b.blk fun L M B=>?_);have N:Ch (· =rv) w L:=zt n B iZ;refine ye<|yx 1<|q9 (rS (yR1 (oX) ?_));unfold qbb at hX;rw[if_pos k,f]at hX;have t:i=false:=q;rw[o,t]at hX;have hX:(if(vs.length:Int)<a then(E0,none)else(qf (vs.take (a:Int).toNat),some (vs.drop (a:Int).toNat)))=(x,s1):=hX;rw[if_pos (by rw[b.len];omega)]at hX;obtain⟨rfl,rfl⟩:=iC hX;exact⟨rfl,(b.spoil (B) M).at,N⟩
  have W:=r;have X:=b.len;have Y:=b.le;obtain⟨ao,rfl⟩:=G.resolve_left (fun h=>absurd (q.symm.trans h) (by decide));refine id ?_;refine yk<|ysr<|yp 6 [] (.l (b.blk.c 0) (.j a (d) .z)) ?_;have O:Rd v (some ⟨D,ao,none⟩) ((vs.take (a:Int).toNat).map (Value.int .u8)):=by
   have h:=b.rd;rw[u8s,<-iV (a:Int).toNat vs,iI]at h;exact rd_front h
  refine yo (qE (some ⟨D,ao,none⟩) (a:Int).toNat d (vs.take (a:Int).toNat) (some 37) (by kernel_rfl) O (by rw[im];omega) ?_);refine yz 8<|ysr<|yp 9 [] (.l (b.blk.c 0) (.j a (g) .z))<|yo (yT [.slice (some ⟨D,(if d=(a:Int).toNat then ao else ao+(a:Int).toNat*1),none⟩) (g-(a:Int).toNat) (d-(a:Int).toNat),.bool i] b.blk fun P Q C=>?_);have R:Ch (· =rv) w P:=zt n C iZ;refine ye<|yx 2<|q9 (yR1 (.string (qf (vs.take (a:Int).toNat))) ?_);unfold qbb at hX;rw[if_pos k,f]at hX;have t:i=false:=q;subst t;rw[o]at hX;have hX:(if(vs.length:Int)<a then(E0,none)else(qf (vs.take (a:Int).toNat),some (vs.drop (a:Int).toNat)))=(x,s1):=hX;rw[if_neg (by rw[b.len];omega)]at hX;obtain⟨rfl,rfl⟩:=iC hX;exact⟨rfl,(b.drop _ (by omega) C Q).at,R⟩
 have Z:=m;exfalso;omega
theorem app_bytV (xs:List Int)(x:ByteArray):u8s xs++qe7 x=u8s (xs++qaT x):=by
 unfold u8s qe7 qaT;rw[iI,jB];rfl
theorem qgS (x:Int):qag [x]=qv x.toNat:=by simp[qag]
theorem qaQ {o:Option Nat}{n cap:Nat}{xs:List Int}{w:World}(hO:Own w tU8 1 o n cap (u8s xs))(x:ByteArray)(hz:n+10+x.size<=1000000000):CP 60 [.slice (o.map at0) n cap,.string x].toArray w fun e w'=> ∃o' n' cap',e= .returned (.slice (o'.map at0) n' cap')/\Own w' tU8 1 o' n' cap' (u8s (xs++qbt x))/\n'<=n+(10+x.size)/\App w w' o o':=by
 refine yA Tryz.func60 rfl<|yx 1<|ysr<|yp 4 [3] (.p (q:=InR .u64 ((x).size:Int)) (qao (by omega) (by omega)) .z)<|yo (yB [.int .u64 ((x).size:Int)] 110 1 fun D k E F a g=>?_);have c:=zv (b:=k) hO;have l:=hO.ch g iZ;have m:=(App.refl w o).step g iZ;refine yo (yC (qcF 1 [((x).size:Int)] l (Rd.all a) (bC bN) a.lt c) ?_);rintro _ G ⟨r,d,s,rfl,t,H,f⟩;refine⟨_,rfl,?_⟩;have u:=f.apart a.lt c;have v:=m.trans f;have y:=a.ch f.ch (fun h=>c _ h rfl);refine yq 7 ?_;refine yo (e_appS 5 r d s (u8s (xs++qag [((x).size:Int)])) x (some 12) (d+(x).size) rfl (by kernel_rfl) t (by constructor<;>first|omega|(simp only[maxLen];omega)) ?_);intro I A B i j;rw[app_bytV]at i;have J:=j.apart y.lt u;have C:=v.trans j;refine yz 9<|q9 (yR1 (.slice (A.map at0) (d+(x).size) B) ?_);exact⟨_,_,_,rfl,by have h:=i;rw[qgS,il,ie]at h;exact h,by omega,C⟩
def qgT (s:Sty):Int:=
  let n0:=qe .or .u64 s.fore (IntKind.wrap .u64 (s.back*2^min (4:Int).toNat (IntKind.bits .u64)))
  let n1:=if s.bold=true then qe .or .u64 n0 256 else n0
  let n2:=if s.under=true then qe .or .u64 n1 512 else n1
  if s.turned=true then qe .or .u64 n2 1024 else n2
theorem qpL:∀f,f<9-> ∀k,k<9-> ∀a b c:Bool,qgT ⟨a,b,c,((f:Nat):Int),((k:Nat):Int)⟩=((qbG ⟨a,b,c,((f:Nat):Int),((k:Nat):Int)⟩:Nat):Int):=by decide+kernel
theorem bitsG_eq {s:Sty}(h:qD s=true):qgT s=((qbG s:Nat):Int):=by
 obtain⟨a,b,c,f,k⟩:=s;simp only[qD,ii,ip]at h;obtain⟨f,rfl⟩:∃n:Nat,f=(n:Int):=⟨f.toNat,by omega⟩
 obtain⟨k,rfl⟩:∃n:Nat,k=(n:Int):=⟨k.toNat,by omega⟩
 exact qpL f (by omega) k (by omega) a b c
theorem qdG {s:Sty}{v:Int}(h:qD s=true)(e:qgT s=v):v=((qbG s:Nat):Int):=e.symm.trans (bitsG_eq h)
theorem style_bd {s:Sty}(h:qD s=true):(0<=s.fore/\s.fore<=8)/\0<=s.back/\s.back<=8:=by
 simp only[qD,ii,ip]at h;omega
theorem bits_any (sx:Sty)(hs:qD sx=true)(w:World):CP 113 [.agg #[.bool sx.bold,.bool sx.under,.bool sx.turned,iX sx.fore,iX sx.back]].toArray w (RQ (.int .u64 ((qbG sx:Nat):Int)) w):=by
 have G:=style_bd hs;refine yA Tryz.func113 rfl<|ysr<|yo (yN [.bool sx.bold,.bool sx.under,.bool sx.turned,iX sx.fore,iX sx.back] 84 fun H I u J b v=>?_);have K:=zn u (zm w);have a:=zu (zm w) v iZ;refine yz 2<|ysr<|yp 9 [2,5] (.l (b.c 3) (.p (q:=InR .u64 sx.fore) (qao (by omega) (by omega)) (.l (b.c 4) (.p (q:=InR .u64 sx.back) (qao (by omega) (by omega)) (.p (q:=0<=(4:Int)) (by omega) .z)))))<|ye<|ys<|ysr<|yp 8 [] (.l (b.c 0) (.l (b.c 1) (.l (b.c 2) .z)))<|ye<|qa<|yU 4 (yU1 ?_);refine yx 1<|ys<|yct<|yk<|ys<|qa<|yx 4<|yx 1<|yc (rY sx.bold) (fun g=>?_) fun g=>?_
 ·have d:=g;refine q7<|yp 5 [] (.p (q:=0<=(0:Int)) (by omega) .z)<|yE (nB (nS ?_));refine q7<|yp 2 [] (.q6 1 .z)<|yE (nU (yU1 ?_));refine yx 1<|ys<|yct<|yk<|ys<|qa<|yx 4<|yx 1<|yc (rY sx.under) (fun h=>?_) fun h=>?_
  ·have o:=h;refine q7<|yp 5 [] (.p (q:=0<=(1:Int)) (by omega) .z)<|yE (nB (nS ?_));refine q7<|yp 2 [] (.q6 2 .z)<|yE (nU (yU1 ?_));refine yx 1<|ys<|yct<|yk<|ys<|qa<|yx 4<|yx 1<|yc (rY sx.turned) (fun i=>?_) fun i=>?_
   ·have x:=i;refine q7<|yp 5 [] (.p (q:=0<=(2:Int)) (by omega) .z)<|yE (nB (nS ?_));refine q7<|yp 2 [] (.q6 3 .z)<|yE (nU (yU1 ?_));refine yx 1<|ys<|ycf<|qm (eS (qd (qb (nS ?_))));refine yx 2<|q9 (yR1 (.int .u64 (qe .or .u64 (qe .or .u64 (qe .or .u64 (qe .or .u64 sx.fore (IntKind.wrap .u64 (sx.back*2^min (4:Int).toNat (IntKind.bits .u64)))) 256) 512) 1024)) ?_);refine⟨congrArg Ending.returned (congrArg (Value.int .u64) ?_),Up.ch a⟩;refine qdG hs ?_;unfold qgT;simp only[d,o,x,iv,↓reduceIte]
   have y:=i;refine qo (nB (nS ?_));refine q7<|yp 2 [] (.q6 3 .z)<|yE (nU (yU1 ?_));refine yx 1<|ys<|ycf<|qm (eS (qd (qb (nS ?_))));refine yx 2<|q9 (yR1 (.int .u64 (qe .or .u64 (qe .or .u64 (qe .or .u64 sx.fore (IntKind.wrap .u64 (sx.back*2^min (4:Int).toNat (IntKind.bits .u64)))) 256) 512)) ?_);refine⟨congrArg Ending.returned (congrArg (Value.int .u64) ?_),Up.ch a⟩;refine qdG hs ?_;unfold qgT;simp only[d,o,y,iv,↓reduceIte]
  have r:=h;refine qo (nB (nS ?_));refine q7<|yp 2 [] (.q6 2 .z)<|yE (nU (yU1 ?_));refine yx 1<|ys<|yct<|yk<|ys<|qa<|yx 4<|yx 1<|yc (rY sx.turned) (fun j=>?_) fun j=>?_
  ·have A:=j;refine q7<|yp 5 [] (.p (q:=0<=(2:Int)) (by omega) .z)<|yE (nB (nS ?_));refine q7<|yp 2 [] (.q6 3 .z)<|yE (nU (yU1 ?_));refine yx 1<|ys<|ycf<|qm (eS (qd (qb (nS ?_))));refine yx 2<|q9 (yR1 (.int .u64 (qe .or .u64 (qe .or .u64 (qe .or .u64 sx.fore (IntKind.wrap .u64 (sx.back*2^min (4:Int).toNat (IntKind.bits .u64)))) 256) 1024)) ?_);refine⟨congrArg Ending.returned (congrArg (Value.int .u64) ?_),Up.ch a⟩;refine qdG hs ?_;unfold qgT;simp only[d,r,A,iv,↓reduceIte]
  have B:=j;refine qo (nB (nS ?_));refine q7<|yp 2 [] (.q6 3 .z)<|yE (nU (yU1 ?_));refine yx 1<|ys<|ycf<|qm (eS (qd (qb (nS ?_))));refine yx 2<|q9 (yR1 (.int .u64 (qe .or .u64 (qe .or .u64 sx.fore (IntKind.wrap .u64 (sx.back*2^min (4:Int).toNat (IntKind.bits .u64)))) 256)) ?_);refine⟨congrArg Ending.returned (congrArg (Value.int .u64) ?_),Up.ch a⟩;refine qdG hs ?_;unfold qgT;simp only[d,r,B,iv,↓reduceIte]
 have f:=g;refine qo (nB (nS ?_));refine q7<|yp 2 [] (.q6 1 .z)<|yE (nU (yU1 ?_));refine yx 1<|ys<|yct<|yk<|ys<|qa<|yx 4<|yx 1<|yc (rY sx.under) (fun k=>?_) fun k=>?_
 ·have s:=k;refine q7<|yp 5 [] (.p (q:=0<=(1:Int)) (by omega) .z)<|yE (nB (nS ?_));refine q7<|yp 2 [] (.q6 2 .z)<|yE (nU (yU1 ?_));refine yx 1<|ys<|yct<|yk<|ys<|qa<|yx 4<|yx 1<|yc (rY sx.turned) (fun m=>?_) fun m=>?_
  ·have C:=m;refine q7<|yp 5 [] (.p (q:=0<=(2:Int)) (by omega) .z)<|yE (nB (nS ?_));refine q7<|yp 2 [] (.q6 3 .z)<|yE (nU (yU1 ?_));refine yx 1<|ys<|ycf<|qm (eS (qd (qb (nS ?_))));refine yx 2<|q9 (yR1 (.int .u64 (qe .or .u64 (qe .or .u64 (qe .or .u64 sx.fore (IntKind.wrap .u64 (sx.back*2^min (4:Int).toNat (IntKind.bits .u64)))) 512) 1024)) ?_);refine⟨congrArg Ending.returned (congrArg (Value.int .u64) ?_),Up.ch a⟩;refine qdG hs ?_;unfold qgT;simp only[f,s,C,iv,↓reduceIte]
  have D:=m;refine qo (nB (nS ?_));refine q7<|yp 2 [] (.q6 3 .z)<|yE (nU (yU1 ?_));refine yx 1<|ys<|ycf<|qm (eS (qd (qb (nS ?_))));refine yx 2<|q9 (yR1 (.int .u64 (qe .or .u64 (qe .or .u64 sx.fore (IntKind.wrap .u64 (sx.back*2^min (4:Int).toNat (IntKind.bits .u64)))) 512)) ?_);refine⟨congrArg Ending.returned (congrArg (Value.int .u64) ?_),Up.ch a⟩;refine qdG hs ?_;unfold qgT;simp only[f,s,D,iv,↓reduceIte]
 have t:=k;refine qo (nB (nS ?_));refine q7<|yp 2 [] (.q6 2 .z)<|yE (nU (yU1 ?_));refine yx 1<|ys<|yct<|yk<|ys<|qa<|yx 4<|yx 1<|yc (rY sx.turned) (fun n=>?_) fun n=>?_
 ·have E:=n;refine q7<|yp 5 [] (.p (q:=0<=(2:Int)) (by omega) .z)<|yE (nB (nS ?_));refine q7<|yp 2 [] (.q6 3 .z)<|yE (nU (yU1 ?_));refine yx 1<|ys<|ycf<|qm (eS (qd (qb (nS ?_))));refine yx 2<|q9 (yR1 (.int .u64 (qe .or .u64 (qe .or .u64 sx.fore (IntKind.wrap .u64 (sx.back*2^min (4:Int).toNat (IntKind.bits .u64)))) 1024)) ?_);refine⟨congrArg Ending.returned (congrArg (Value.int .u64) ?_),Up.ch a⟩;refine qdG hs ?_;unfold qgT;simp only[f,t,E,iv,↓reduceIte]
 have F:=n;refine qo (nB (nS ?_));refine q7<|yp 2 [] (.q6 3 .z)<|yE (nU (yU1 ?_));refine yx 1<|ys<|ycf<|qm (eS (qd (qb (nS ?_))));refine yx 2<|q9 (yR1 (.int .u64 (qe .or .u64 sx.fore (IntKind.wrap .u64 (sx.back*2^min (4:Int).toNat (IntKind.bits .u64))))) ?_);refine⟨congrArg Ending.returned (congrArg (Value.int .u64) ?_),Up.ch a⟩;refine qdG hs ?_;unfold qgT;simp only[f,t,F,iv,↓reduceIte]
theorem qdH {o:Option Nat}{n cap:Nat}{xs:List Int}{w:World}(hO:Own w tU8 1 o n cap (u8s xs))(sx:Sty)(hs:qD sx=true)(hz:n+10<=1000000000):CP 85 [.slice (o.map at0) n cap,.agg #[.bool sx.bold,.bool sx.under,.bool sx.turned,iX sx.fore,iX sx.back]].toArray w fun e w'=> ∃o' n' cap',e= .returned (.slice (o'.map at0) n' cap')/\Own w' tU8 1 o' n' cap' (u8s (xs++qv (qbG sx)))/\n'<=n+10/\App w w' o o':=by
 have F:=qeV hs;refine yA Tryz.func85 rfl<|ysr<|yo (yN [.bool sx.bold,.bool sx.under,.bool sx.turned,iX sx.fore,iX sx.back] 84 fun G m H I i j=>?_);have p:=zv (b:=m) hO;have q:=hO.ch j iZ;have r:=(App.refl w o).step j iZ;refine yz 2<|ysr<|yp 2 [] (.a (i.cs 0 5) .z)<|yo (yQ (bits_any sx hs _) fun J c=>?_);have k:=q.ch c iZ;have s:=r.step c iZ;have t:=i.ch c id;refine yo (yB [.int .u64 ((qbG sx:Nat):Int)] 110 1 fun K u L M d f=>?_);have l:=zv (b:=u) k;have v:=k.ch f iZ;have x:=s.step f iZ;have y:=t.ch f id;refine yo (yC (qcF 1 [((qbG sx:Nat):Int)] v (Rd.all d) (bC bN) d.lt l) ?_);rintro _ N ⟨A,B,C,rfl,D,O,g⟩;refine⟨_,rfl,?_⟩;have P:=g.apart y.lt p;have Q:=g.apart d.lt l;have E:=x.trans g;refine yz 6<|q9 (yR1 (.slice (A.map at0) B C) ?_);exact⟨_,_,_,rfl,by have h:=D;rw[qgS,il]at h;exact h,by omega,E⟩
theorem u8_at {w:World}{b o:Nat}{l:List Int}(h:Rd w (some ⟨b,o,none⟩) (u8s l))(k:Nat)(hk:k<l.length):w.cell? ⟨b,o+k,none⟩=some (uX (l.getD k 0)):=by
 refine qcg h k _ ?_;rw[iM,ig hk];simp[List.getD,ig hk]
theorem qpM {l:List Int}(h:qat l){k:Nat}(hk:k<l.length):0<=l.getD k 0/\l.getD k 0<=255:=h _ (qd6 hk)
theorem qaR (a b:List Int):u8s (a++b)=u8s a++u8s b:=iI
theorem qU (a:List Int):(u8s a).length=a.length:=hZ _
theorem sum_any (b cap:Nat)(l:List Int)(w:World)(hr:Rd w (some ⟨b,0,none⟩) (u8s l))(hby:qat l)(hn:l.length<=1000000000):CP 114 [.slice (some ⟨b,0,none⟩) l.length cap].toArray w (RQ (.int .u32 (qca l)) w):=by
 have h:=Sep.nil w;refine yA Tryz.func114 rfl<|yx 1<|yx 1<|ys<|yx 3<|qa<|qV [3,6,7,8] (f':=[(3,.int .u32 4294967295),(6,.slice (some ⟨b,0,none⟩) l.length cap),(7,iX (l.length:Int)),(8,iX 0)])<|qw (σ:=Nat) (fun k=>[(3,.int .u32 (qho l k)),(6,.slice (some ⟨b,0,none⟩) l.length cap),(7,iX (l.length:Int)),(8,iX (k:Int))]) (fun k u=>k<=l.length/\Sep w (fun _=>False) u []) (fun k=>l.length-k) 0 rfl ?_ ?_
 ·exact⟨ir _,h.take 0⟩
 intro k u f t g;obtain⟨hk,h⟩:=f;refine yx 1<|ys<|yc (rL (k:Int) (l.length:Int)) (fun c=>?_) fun c=>?_
 ·have v:=c;have x:=qpM hby (k:=k) (by omega);refine yk<|ys<|qa<|ysr<|yp 3 [] (.i (k:Int) (l.length) (.l (o:=(0+((k:Int)).toNat*1)) (qlc (h.rd hr) (by omega)) .z))<|ye<|ysr<|yp 5 [2] (.p (q:=InR .u32 (l.getD k 0)) (qgm (by omega) (by omega)) .z)<|ye<|yx 1<|qa<|qV [3,6,7,8,16] (f':=[(3,.int .u32 (qe .xor .u32 (qho l k) (l.getD k 0))),(6,.slice (some ⟨b,0,none⟩) l.length cap),(7,iX (l.length:Int)),(8,iX (k:Int)),(16,iX 0)])<|qw (σ:=Nat) (fun j=>[(3,.int .u32 (ql9 (qe .xor .u32 (qho l k) (l.getD k 0)) j)),(6,.slice (some ⟨b,0,none⟩) l.length cap),(7,iX (l.length:Int)),(8,iX (k:Int)),(16,iX (j:Int))]) (fun j u=>j<=8/\Sep w (fun _=>False) u []) (fun j=>8-j) 0 rfl ?_ ?_
  ·exact⟨ir _,h.take 0⟩
  intro j u m y n;obtain⟨hj,h⟩:=m;refine yx 1<|ys<|yc (rL (j:Int) 8) (fun d=>?_) fun d=>?_
  ·have A:=d;refine yk<|ys<|qa<|q7<|yp 7 [] (.p (q:=0<=(1:Int)) (by omega) .z)<|yE (nB (nS ?_));refine q7<|yp 2 [] (.q6 ((j:Int)+1) .z)<|yE (fun a ha=>n (j+1) _ ⟨by omega,h.take 0⟩ (by show 8-(j+1)<8-j;omega) a (ha.kp [3,6,7,8,16]))
  have B:=d;have r:j=8:=by omega
  subst r;refine qm (eS (qd (qb (nB (nS ?_)))));refine q7<|yp 2 [] (.q6 ((k:Int)+1) .z)<|yE (fun a ha=>g (k+1) _ ⟨by omega,h.take 0⟩ (by show l.length-(k+1)<l.length-k;omega) a (ha.kp [3,6,7,8]))
 have C:=c;have s:k=l.length:=by omega
 refine qm (eS (qd (qb (nS ?_))));refine yx 3<|q9 (yR1 (.int .u32 (qe .xor .u32 4294967295 (qho l k))) ?_);exact⟨by rw[s];rfl,h.ch⟩
theorem sum_any' (b n cap:Nat)(l:List Int)(w:World)(hr:Rd w (some ⟨b,0,none⟩) (u8s l))(hby:qat l)(hn:l.length<=1000000000)(e:l.length=n):CP 114 [.slice (some ⟨b,0,none⟩) n cap].toArray w (RQ (.int .u32 (qca l)) w):=by
 subst e;exact sum_any b cap l w hr hby hn
theorem qgU (o:Option Nat)(n cap:Nat)(xs:List Int)(a:Option Addr)(m c:Nat)(l:List Int)(w:World)(hO:Own w tU8 1 o n cap (u8s xs))(hr:Rd w a (u8s l))(hl:l.length=m)(hz0:a=none->c=0)(hne:∀ad,a=some ad-> ¬o=some ad.block)(hby:qat l)(hz:n+m+100<=1000000000):CP 87 [.slice (o.map at0) n cap,.slice a m c].toArray w fun e w'=> ∃o' n' c',e= .returned (.slice (o'.map at0) n' c')/\Own w' tU8 1 o' n' c' (u8s (xs++qad l))/\(xs++qad l).length=n'/\App w w' o o':=by
 have j:qat (qX l):=ql (qp (by omega)) hby;have y:=qf1 l.length;have A:=qH l.length;have B:(qX l).length=(qv l.length).length+l.length:=by unfold qX;rw[hJ]
 have C:xs.length=n:=by have:=hO.len1;rwa[qU]at this
 have D:=qpI (qX l);have h:=Sep.startO hO;refine yA Tryz.func87 rfl<|yx 1<|ysr<|yp 3 [2] (.p (q:=InR .u64 (m:Int)) (qao (by omega) (by omega)) .z)<|yo (zB [.int .u64 (m:Int)] 110 1 h fun u E h=>?_);refine yo (yC (qcF (xs:=[]) 1 [(m:Int)] (Own.nil _ _ _) (Rd.all (h.b 1)) (bC bN) (h.b 1).lt (fun b e=>by cases e)) ?_);rintro _ u ⟨F,d,G,rfl,k,H,r⟩;refine⟨_,rfl,?_⟩;have h:=h.app0 k r;have I:([]++qag [(m:Int)]).length=d:=by have:=h.len1 2;rwa[hZ]at this
 refine yq 6<|yo (zA (a2:=a) (ys:=u8s (l)) 2 1 m c (d+m) (u8s (qv l.length++l)) h (hr.ch h.ch (fun ad e=>hne ad e)) (qN _) (hz:=by rw[qgS,il,hl,iO];exact(qaR _ _).symm) (hy:=(by rw[qU];omega)) (hn2:=hz0) fun u J f h K=>?_);have g:(qv l.length++l).length=(d+m):=by have:=h.len1 2;rwa[hZ]at this
 have L:(qX l).length=(d+m):=g;refine yz 8<|ysr<|yq 1 ?_;obtain⟨i,rfl⟩:=h.isO 2;refine yo (yQ (h.look (sum_any' i (d+m) f (qX l) _ (h.brd 2) j (by omega) g)) fun u h=>?_);refine yz 3<|ysr<|yq 2<|yo (zA (a2:=(some ⟨i,0,none⟩)) (ys:=u8s (qX l)) 0 1 (d+m) f (n+(d+m)) (u8s (xs++qX l)) h (h.brd 2) (qN _) (hz:=(qaR _ _).symm) (hy:=(by rw[qU];omega)) (hn2:=(fun e=>by cases e)) fun u M N h O=>?_);have P:(xs++qX l).length=(n+(d+m)):=by have:=h.len1 0;rwa[hZ]at this
 refine yp 14 [] (.p (q:=0<=(8:Int)) (by omega) (.p (q:=0<=(16:Int)) (by omega) (.p (q:=0<=(24:Int)) (by omega) .z)))<|yo (zB [uX (IntKind.wrap .u8 (qca (qX l))),uX (IntKind.wrap .u8 (Int.fdiv (qca (qX l)) (2^min (8:Int).toNat (IntKind.bits .u32)))),uX (IntKind.wrap .u8 (Int.fdiv (qca (qX l)) (2^min (16:Int).toNat (IntKind.bits .u32)))),uX (IntKind.wrap .u8 (Int.fdiv (qca (qX l)) (2^min (24:Int).toNat (IntKind.bits .u32))))] 5 4 h fun u s h=>?_);refine yo (zA (a2:=(some ⟨s,0,none⟩)) (ys:=u8s ([(IntKind.wrap .u8 (qca (qX l))),(IntKind.wrap .u8 (Int.fdiv (qca (qX l)) (2^min (8:Int).toNat (IntKind.bits .u32)))),(IntKind.wrap .u8 (Int.fdiv (qca (qX l)) (2^min (16:Int).toNat (IntKind.bits .u32)))),(IntKind.wrap .u8 (Int.fdiv (qca (qX l)) (2^min (24:Int).toNat (IntKind.bits .u32))))])) 0 1 4 4 ((n+(d+m))+4) (u8s (xs++qX l++[(IntKind.wrap .u8 (qca (qX l))),(IntKind.wrap .u8 (Int.fdiv (qca (qX l)) (2^min (8:Int).toNat (IntKind.bits .u32)))),(IntKind.wrap .u8 (Int.fdiv (qca (qX l)) (2^min (16:Int).toNat (IntKind.bits .u32)))),(IntKind.wrap .u8 (Int.fdiv (qca (qX l)) (2^min (24:Int).toNat (IntKind.bits .u32))))])) h (Rd.all (h.b 3)) (qN _) (hz:=(qaR _ _).symm) (hy:=rfl) (hn2:=(fun e=>by cases e)) fun u t v h Q=>?_);have R:(xs++qX l++[(IntKind.wrap .u8 (qca (qX l))),(IntKind.wrap .u8 (Int.fdiv (qca (qX l)) (2^min (8:Int).toNat (IntKind.bits .u32)))),(IntKind.wrap .u8 (Int.fdiv (qca (qX l)) (2^min (16:Int).toNat (IntKind.bits .u32)))),(IntKind.wrap .u8 (Int.fdiv (qca (qX l)) (2^min (24:Int).toNat (IntKind.bits .u32))))]).length=((n+(d+m))+4):=by have:=h.len1 0;rwa[hZ]at this
 refine yz 17<|q9 (yR1 (.slice (t.map at0) ((n+(d+m))+4) v) ?_);obtain⟨hO,hA⟩:=h.finA 0;have x:(xs++qX l++[(IntKind.wrap .u8 (qca (qX l))),(IntKind.wrap .u8 (Int.fdiv (qca (qX l)) (2^min (8:Int).toNat (IntKind.bits .u32)))),(IntKind.wrap .u8 (Int.fdiv (qca (qX l)) (2^min (16:Int).toNat (IntKind.bits .u32)))),(IntKind.wrap .u8 (Int.fdiv (qca (qX l)) (2^min (24:Int).toNat (IntKind.bits .u32))))]:List Int)=xs++qad l:=by unfold qad;rw[ie];rfl
 rw[x]at hO;exact⟨_,_,_,rfl,hO,by have:=hO.len1;rw[qU]at this;exact this,hA⟩
theorem qx {l m:List Int}(hl:qat l)(hm:qat m):((qf l).toList==(qf m).toList)=decide (l=m):=by
 rw[iQ];constructor
 ·intro h;have h:=congrArg qaT (qhM h);rw[qgK hl,qgK hm]at h;exact j1 h
 intro h;rw[iK h];simp
theorem qkc {w:World}{a:Option Addr}{l:List Int}(h:Rd w a (u8s l))(m:Nat):Rd w a (u8s (l.take m)):=by
 refine⟨fun e=>?_,fun ad e j u hj=>?_⟩
 ·have:=h.1 e;rw[u8s,ki]at this;subst this;simp[u8s]
 refine h.2 ad e j u ?_;rw[u8s,k4,j5]at hj;split at hj
 ·exact hj
 cases hj
theorem qle {w:World}{b o:Nat}{l:List Int}(h:Rd w (some ⟨b,o,none⟩) (u8s l))(k:Nat):Rd w (some ⟨b,o+k*1,none⟩) (u8s (l.drop k)):=by
 refine⟨fun e=>by(cases e),fun ad e j u hj=>?_⟩;cases e;have:=h.2 ⟨b,o,none⟩ rfl (k+j) u (by
  rw[u8s,iM,jg,<-iM]at hj;exact hj)
 rw[qaZ]at this⊢;rw[show o+k*1+j=o+(k+j) by omega];exact this
theorem take_eq {a:Option Addr}{n cap K c:Nat}{us:List Int}{w:World}(hT:qa6 us=(K,c))(hr:Rd w a (u8s us))(hl:us.length=n)(hz:n=0\/ ∃b o,a=some ⟨b,o,none⟩)(hb:qat us)(hn:n<=1000000000):CP 86 [.slice a n cap].toArray w (RQ (.tuple #[.int .u64 (K:Int),iX (c:Int)]) w):=by
 have:=qmi a n cap us w hr hl hz hb hn;rw[hT]at this;exact this
theorem qlf {l:List Int}{K c:Nat}(hT:qa6 l=(K,c))(h:c=0\/l.length<K+c+4):qb0 l=([],0):=by
 unfold qb0;rw[hT];exact if_pos h
theorem qe0 {l:List Int}{K c:Nat}{b:Bool}(hT:qa6 l=(K,c))(h:¬(c=0\/l.length<K+c+4))(hy:qat l)(hf:qat (qad ((l.drop c).take K)))(hc:((qf (qad ((l.drop c).take K))).toList==(qf (l.take (c+K+4))).toList)=b):qb0 l=if b=true then((l.drop c).take K,c+K+4)else([],0):=by
 rw[qx hf fun x hx=>hy x (iS hx)]at hc;subst hc;unfold qb0;rw[hT];dsimp only;rw[if_neg h];simp only[ip]
theorem qnE {l:List Int}(h:qat l)(k m:Nat):qat ((l.drop k).take m):=fun x hx=>h x (iW (iS hx))
theorem qml (a:Option Addr)(n cap:Nat)(l:List Int)(w:World)(hr:Rd w a (u8s l))(hl:l.length=n)(hcap:n<=cap)(hz:(n=0/\cap=0)\/ ∃b o,a=some ⟨b,o,none⟩)(hby:qat l)(hn:n<=100000000):CP 61 [.slice a n cap].toArray w fun e w'=> ∃o c xs k,e= .returned (.tuple #[.slice (o.map at0) xs.length c,iX ((k:Nat):Int)])/\qb0 l=(xs,k)/\Own w' tU8 1 o xs.length c (u8s xs)/\App w w' none o:=by
 obtain⟨K,c,hT⟩:∃K c,qa6 l=(K,c):=⟨_,_,rfl⟩
 have a3:c<=n:=by have:=(qm8 hby).1;rw[hT]at this;omega
 have G:n=0\/ ∃b o,a=some ⟨b,o,none⟩:=hz.imp (fun h=>h.1) id;have H:n<=1000000000:=by omega
 have h:=Sep.nil w;refine yA Tryz.func61 rfl<|yx 2<|ysr<|yq 1<|yo (yQ (h.look (take_eq (cap:=cap) hT (hr.ch h.ch fun _ _ h=>h) hl G hby H)) fun u h=>?_);refine yz 7<|ys<|ysr<|yq 3<|yw [14] (rE ((c:Nat):Int) 0) (fun r=>?_) fun r=>?_
 ·have a4:=r;refine yz 19<|yct<|yx 2<|q9 (rS (yR2 [nX,iX 0] .z ?_));exact⟨none,0,[],0,rfl,qlf hT (by omega),Own.nil _ _ _,h.no⟩
 have a5:=r;refine yp 10 [6] (.p (q:=InR .u64 (n:Int)) (qao (by omega) (by omega)) .z)<|yw [21] (rL (n:Int) ((K:Nat):Int)) (fun s=>?_) fun s=>?_
 ·have a6:=s;refine yz 19<|yct<|yx 2<|q9 (rS (yR2 [nX,iX 0] .z ?_));exact⟨none,0,[],0,rfl,qlf hT (by omega),Own.nil _ _ _,h.no⟩
 have a7:=s;refine yp 19 [] (.q6 ((K:Nat):Int) (.q6 (((K:Nat):Int)+((c:Nat):Int)) (.q6 ((((K:Nat):Int)+((c:Nat):Int))+4) .z)))<|ye<|yc (rL (n:Int) ((((K:Nat):Int)+((c:Nat):Int))+4)) (fun t=>?_) fun t=>?_
 ·have a8:=t;refine yx 2<|q9 (rS (yR2 [nX,iX 0] .z ?_));exact⟨none,0,[],0,rfl,qlf hT (by omega),Own.nil _ _ _,h.no⟩
 have a9:=t;obtain⟨_,_⟩|⟨D,f,rfl⟩:=hz
 ·exfalso;omega
 have d:((l.drop c).take K).length=K:=by rw[im,iG];omega
 have g:qat ((l.drop c).take K):=qnE hby c K;have aa:(qad ((l.drop c).take K)).length=(qv K).length+K+4:=by rw[qbW,d]
 refine yk<|ysr<|yp 5 [] (.q6 ((K:Nat):Int) (.q6 (((c:Nat):Int)+((K:Nat):Int)) .z))<|ye<|ys<|ys<|zD [4,5,10] h fun u h=>ydT [0,1,2,3,6,7,8,9] [3] rfl (fun _=>(.j (((c:Nat):Int)+((K:Nat):Int)) (cap) (.j ((c:Nat):Int) (((((c:Nat):Int)+((K:Nat):Int)):Int).toNat) (.p (q:=(((c:Nat):Int):Int).toNat<cap) (by omega) (.q6 ((((c:Nat):Int)+((K:Nat):Int))+4) (.j ((((c:Nat):Int)+((K:Nat):Int))+4) (cap) .z))))))<|qas 4 10 (by kernel_rfl) (by decide) ?_ ?_
 ·refine qav 4 _ (by kernel_rfl) rfl (yC (qgU none 0 0 [] (some ⟨D,(f+(((c:Nat):Int):Int).toNat*1),none⟩) (((((c:Nat):Int)+((K:Nat):Int)):Int).toNat-(((c:Nat):Int):Int).toNat) (cap-(((c:Nat):Int):Int).toNat) ((l.drop c).take K) _ (Own.nil _ _ _) ((qkc (qle (h.rd hr) c) K)) (by rw[d];omega) (fun e=>by cases e) (fun _ _ e=>by cases e) g (by omega)) ?_);rintro _ u ⟨B,v,C,rfl,I,ab,J⟩;refine⟨_,rfl,?_⟩;have h:=h.app0 I J;have E:([]++qad ((l.drop c).take K)).length=v:=by have:=h.len1 0;rwa[hZ]at this
  refine q8<|qas 5 10 (by kernel_rfl) (by decide) ?_ ?_
  ·refine qav 5 _ (by kernel_rfl) rfl (qE (B.map at0) v C ([]++qad ((l.drop c).take K)) (some 40) (by kernel_rfl) (h.ownRd' 0) E ?_);refine q8<|yK 10 (qE (some ⟨D,f,none⟩) (((((c:Nat):Int)+((K:Nat):Int))+4):Int).toNat cap (l.take (c+K+4)) (some 45) (by kernel_rfl) (qkc (h.rd hr) _) (by rw[im];omega) ?_);refine q8<|yd [11] [] .z<|yDe (nS ?_);refine yc (rN (rY (((qf ([]++qad ((l.drop c).take K)))).toList==((qf (l.take (c+K+4)))).toList))) (fun x=>?_) fun x=>?_
   ·have L:=x;refine yx 2<|q9 (rS (yR2 [nX,iX 0] .z ?_));exact⟨none,0,[],0,rfl,qe0 hT (by omega) hby (qbI g (by rw[d];omega)) (iY.2 (by simpa using L)),Own.nil _ _ _,h.no⟩
   have M:=x;refine yk<|ysr<|yp 4 [3] (.j (((c:Nat):Int)+((K:Nat):Int)) (cap) (.j ((c:Nat):Int) (((((c:Nat):Int)+((K:Nat):Int)):Int).toNat) (.p (q:=(((c:Nat):Int):Int).toNat<cap) (by omega) .z)))<|yo (zA0 (a2:=(some ⟨D,(f+(((c:Nat):Int):Int).toNat*1),none⟩)) (m:=(((((c:Nat):Int)+((K:Nat):Int)):Int).toNat-(((c:Nat):Int):Int).toNat)) (c2:=(cap-(((c:Nat):Int):Int).toNat)) (ys:=u8s ((l.drop c).take K)) 5 1 1 h ((qkc (qle (h.rd hr) c) K)) (qN _) (by rw[qU,d];omega) (fun e=>by cases e) fun u N O h ac=>?_);refine yp 9 [] (.q6 ((((c:Nat):Int)+((K:Nat):Int))+4) .z)<|ye<|q9 (yR2 [.slice (N.map at0) (((((c:Nat):Int)+((K:Nat):Int)):Int).toNat-(((c:Nat):Int):Int).toNat) O,iX ((((c:Nat):Int)+((K:Nat):Int))+4)] .z ?_);obtain⟨hO,hA⟩:=h.newO 1;have i:(((((c:Nat):Int)+((K:Nat):Int)):Int).toNat-(((c:Nat):Int):Int).toNat)=((l.drop c).take K).length:=by rw[d];omega
   rw[i]at hO;exact⟨_,_,_,c+K+4,by rw[i,show(((c+K+4:Nat)):Int)=(c:Int)+K+4 by omega],qe0 hT (by omega) hby (qbI g (by rw[d];omega)) M,hO,hA⟩
  refine qav 10 _ (by kernel_rfl) rfl (qE (some ⟨D,f,none⟩) (((((c:Nat):Int)+((K:Nat):Int))+4):Int).toNat cap (l.take (c+K+4)) (some 45) (by kernel_rfl) (qkc (h.rd hr) _) (by rw[im];omega) ?_);refine q8<|yK 5 (qE (B.map at0) v C ([]++qad ((l.drop c).take K)) (some 40) (by kernel_rfl) (h.ownRd' 0) E ?_);refine q8<|yd [11] [] .z<|yDe (nS ?_);refine yc (rN (rY (((qf ([]++qad ((l.drop c).take K)))).toList==((qf (l.take (c+K+4)))).toList))) (fun y=>?_) fun y=>?_
  ·have P:=y;refine yx 2<|q9 (rS (yR2 [nX,iX 0] .z ?_));exact⟨none,0,[],0,rfl,qe0 hT (by omega) hby (qbI g (by rw[d];omega)) (iY.2 (by simpa using P)),Own.nil _ _ _,h.no⟩
  have Q:=y;refine yk<|ysr<|yp 4 [3] (.j (((c:Nat):Int)+((K:Nat):Int)) (cap) (.j ((c:Nat):Int) (((((c:Nat):Int)+((K:Nat):Int)):Int).toNat) (.p (q:=(((c:Nat):Int):Int).toNat<cap) (by omega) .z)))<|yo (zA0 (a2:=(some ⟨D,(f+(((c:Nat):Int):Int).toNat*1),none⟩)) (m:=(((((c:Nat):Int)+((K:Nat):Int)):Int).toNat-(((c:Nat):Int):Int).toNat)) (c2:=(cap-(((c:Nat):Int):Int).toNat)) (ys:=u8s ((l.drop c).take K)) 5 1 1 h ((qkc (qle (h.rd hr) c) K)) (qN _) (by rw[qU,d];omega) (fun e=>by cases e) fun u R S h ad=>?_);refine yp 9 [] (.q6 ((((c:Nat):Int)+((K:Nat):Int))+4) .z)<|ye<|q9 (yR2 [.slice (R.map at0) (((((c:Nat):Int)+((K:Nat):Int)):Int).toNat-(((c:Nat):Int):Int).toNat) S,iX ((((c:Nat):Int)+((K:Nat):Int))+4)] .z ?_);obtain⟨hO,hA⟩:=h.newO 1;have i:(((((c:Nat):Int)+((K:Nat):Int)):Int).toNat-(((c:Nat):Int):Int).toNat)=((l.drop c).take K).length:=by rw[d];omega
  rw[i]at hO;exact⟨_,_,_,c+K+4,by rw[i,show(((c+K+4:Nat)):Int)=(c:Int)+K+4 by omega],qe0 hT (by omega) hby (qbI g (by rw[d];omega)) Q,hO,hA⟩
 refine qav 10 _ (by kernel_rfl) rfl (qE (some ⟨D,f,none⟩) (((((c:Nat):Int)+((K:Nat):Int))+4):Int).toNat cap (l.take (c+K+4)) (some 45) (by kernel_rfl) (qkc (h.rd hr) _) (by rw[im];omega) ?_);refine q8<|yK 4 (yC (qgU none 0 0 [] (some ⟨D,(f+(((c:Nat):Int):Int).toNat*1),none⟩) (((((c:Nat):Int)+((K:Nat):Int)):Int).toNat-(((c:Nat):Int):Int).toNat) (cap-(((c:Nat):Int):Int).toNat) ((l.drop c).take K) _ (Own.nil _ _ _) ((qkc (qle (h.rd hr) c) K)) (by rw[d];omega) (fun e=>by cases e) (fun _ _ e=>by cases e) g (by omega)) ?_);rintro _ u ⟨T,F,U,rfl,V,ae,W⟩;refine⟨_,rfl,?_⟩;have h:=h.app0 V W;have X:([]++qad ((l.drop c).take K)).length=F:=by have:=h.len1 0;rwa[hZ]at this
 refine q8<|yK 5 (qE (T.map at0) F U ([]++qad ((l.drop c).take K)) (some 40) (by kernel_rfl) (h.ownRd' 0) X ?_);refine q8<|yd [11] [] .z<|yDe (nS ?_);refine yc (rN (rY (((qf ([]++qad ((l.drop c).take K)))).toList==((qf (l.take (c+K+4)))).toList))) (fun A=>?_) fun A=>?_
 ·have Y:=A;refine yx 2<|q9 (rS (yR2 [nX,iX 0] .z ?_));exact⟨none,0,[],0,rfl,qe0 hT (by omega) hby (qbI g (by rw[d];omega)) (iY.2 (by simpa using Y)),Own.nil _ _ _,h.no⟩
 have Z:=A;refine yk<|ysr<|yp 4 [3] (.j (((c:Nat):Int)+((K:Nat):Int)) (cap) (.j ((c:Nat):Int) (((((c:Nat):Int)+((K:Nat):Int)):Int).toNat) (.p (q:=(((c:Nat):Int):Int).toNat<cap) (by omega) .z)))<|yo (zA0 (a2:=(some ⟨D,(f+(((c:Nat):Int):Int).toNat*1),none⟩)) (m:=(((((c:Nat):Int)+((K:Nat):Int)):Int).toNat-(((c:Nat):Int):Int).toNat)) (c2:=(cap-(((c:Nat):Int):Int).toNat)) (ys:=u8s ((l.drop c).take K)) 5 1 1 h ((qkc (qle (h.rd hr) c) K)) (qN _) (by rw[qU,d];omega) (fun e=>by cases e) fun u a0 a1 h af=>?_);refine yp 9 [] (.q6 ((((c:Nat):Int)+((K:Nat):Int))+4) .z)<|ye<|q9 (yR2 [.slice (a0.map at0) (((((c:Nat):Int)+((K:Nat):Int)):Int).toNat-(((c:Nat):Int):Int).toNat) a1,iX ((((c:Nat):Int)+((K:Nat):Int))+4)] .z ?_);obtain⟨hO,hA⟩:=h.newO 1;have i:(((((c:Nat):Int)+((K:Nat):Int)):Int).toNat-(((c:Nat):Int):Int).toNat)=((l.drop c).take K).length:=by rw[d];omega
 rw[i]at hO;exact⟨_,_,_,c+K+4,by rw[i,show(((c+K+4:Nat)):Int)=(c:Int)+K+4 by omega],qe0 hT (by omega) hby (qbI g (by rw[d];omega)) Z,hO,hA⟩
theorem qmm (p:Int)(w:World):CP 30 [iX p].toArray w fun e w'=> ∃b,e= .returned (pX b)/\NewA (qJ b ⟨none,max p 0,false,0,false⟩) w w':=by
 have h:=Sep.nil w;refine yA Tryz.func30 rfl<|yx 1<|ysr<|yo (zMk h fun u a h=>?_);refine yq 4<|yo (zN [.map (some a),iX (max (p:Int) 0),xF,iX 0,xF] 132 h fun u c h=>?_);refine yz 6<|q9 (yR1 (pX c) ?_);exact⟨_,rfl,(Sep.pack (l:=[]) (L:=qe9 _ ⟨none,max p 0,false,0,false⟩) ⟨a,0,none,0,0⟩ (h.ord [1,0]).eqv).finN 0⟩
theorem qpN (w:World):CP 102 [.string nmR].toArray w (RQ (.bool true) w):=by
 have h:=Sep.nil w;refine yA Tryz.func102 rfl<|yx 1<|ysr<|yq 3<|yw [5] (rN (rY ((nmR).toList==(ByteArray.empty).toList))) (fun a=>?_) fun a=>?_
 ·refine yz 8<|q9 (yR1 (.bool (decide (((nmR).size:Int)<=12))) ?_);exact⟨rfl,h.ch⟩
 exact Bool.noConfusion (nmR_ne.symm.trans a)
theorem used_0 (b:Nat)(x:StX)(qu:Int)(ar:Bool)(lf:Int)(dn:Bool)(w:World)(hS:StRd w b ⟨none,qu,ar,lf,dn⟩ x):CP 103 [pX b].toArray w (RQ (iX (usedI ⟨none,qu,ar,lf,dn⟩)) w):=by
 obtain⟨hb,hm⟩:=hS;have h:=Sep.nil w;refine yA Tryz.func103 rfl<|yx 1<|yx 1<|ys<|ysr<|yp 4 [] (.l (qg h.ch (hb.c 0) id) .z)<|yo (zRg h (hm.ch h.ch id) fun u a h=>?_);refine ye<|qa<|yU 1 (yU1 ?_);refine ysr<|yo (zNxO (seen:=[]) h 0 (hm.ch h.ch id) ?_);refine yz 2<|ys<|ycf<|qm (eS (qd (qb (nS ?_))));refine yx 2<|q9 (yR1 (iX 0) ?_);exact⟨by unfold usedI;simp,h.ch⟩
theorem find_0 (b:Nat)(x:StX)(qu:Int)(ar:Bool)(lf:Int)(dn:Bool)(w:World)(hS:StRd w b ⟨none,qu,ar,lf,dn⟩ x)(hd:dn=false):CP 97 [pX b,.string nmR].toArray w (RQ (.tuple #[.pointer none,iX 4]) w):=by
 subst hd;obtain⟨hb,hm⟩:=hS;have h:=Sep.nil w;refine yA Tryz.func97 rfl<|yx 2<|ysr<|yp 5 [] (.l (qg h.ch (hb.c 0) id) .z)<|yo (zLk (hm.ch h.ch id) (.pointer none) ?_);refine yz 7<|ys<|qa<|ysr<|yp 5 [] (.l (qg h.ch (hb.c 4) id) .z)<|ye<|ycf<|yx 3<|yct<|yx 2<|q9 (rB (rS (yR2 [.pointer none,iX 4] .z ?_)));exact⟨rfl,h.ch⟩
theorem used_1 (b:Nat)(x:StX)(q:Fl)(qu:Int)(ar:Bool)(lf:Int)(dn:Bool)(w:World)(hS:StRd w b ⟨some q,qu,ar,lf,dn⟩ x)(hz:q.data.length<=1000000000):CP 103 [pX b].toArray w (RQ (iX (usedI ⟨some q,qu,ar,lf,dn⟩)) w):=by
 obtain⟨hb,hm,hf,hO⟩:=hS;have a:=hO.len1;rw[qU]at a;have h:=Sep.nil w;refine yA Tryz.func103 rfl<|yx 1<|yx 1<|ys<|ysr<|yp 4 [] (.l (qg h.ch (hb.c 0) id) .z)<|yo (zRg h (hm.ch h.ch id) fun u d h=>?_);refine ye<|qa<|yU 2 (yU1 ?_);refine ysr<|yo (zNxS (seen:=[]) {key:= .string nmR,val:= .pointer (some ⟨x.f,0,none⟩),born:=0} h 0 (hm.ch h.ch id) fun u h=>?_);refine yz 2<|ys<|yct<|yk<|qa<|ysr<|yo (zEn (seen:=[]) 0 {key:= .string nmR,val:= .pointer (some ⟨x.f,0,none⟩),born:=0} h 0 (hm.ch h.ch id) ?_);refine yz 3<|q7<|yp 8 [] (.l (qg h.ch (hf.c 0) id) (.q6 (0+(x.n:Int)) .z))<|yE (nB (nU (yU1 ?_)));refine ysr<|yo (zNxO (seen:=[0]) h 0 (hm.ch h.ch id) ?_);refine yz 2<|ys<|ycf<|qm (eS (qd (qb (nS ?_))));refine yx 2<|q9 (yR1 (iX (0+(x.n:Int))) ?_);exact⟨by unfold usedI;simp[a],h.ch⟩
theorem find_1 (b:Nat)(x:StX)(q:Fl)(qu:Int)(ar:Bool)(lf:Int)(dn:Bool)(w:World)(hS:StRd w b ⟨some q,qu,ar,lf,dn⟩ x)(hd:dn=false):CP 97 [pX b,.string nmR].toArray w (RQ (.tuple #[.pointer (some ⟨x.f,0,none⟩),iX 0]) w):=by
 subst hd;obtain⟨hb,hm,hf,hO⟩:=hS;have a:=hO.len1;rw[qU]at a;have h:=Sep.nil w;refine yA Tryz.func97 rfl<|yx 2<|ysr<|yp 5 [] (.l (qg h.ch (hb.c 0) id) .z)<|yo (zLk (hm.ch h.ch id) (.pointer (some ⟨x.f,0,none⟩)) ?_);refine yz 7<|ys<|qa<|ysr<|yp 5 [] (.l (qg h.ch (hb.c 4) id) .z)<|ye<|ycf<|yx 3<|ycf<|qo (nB (nS ?_));refine yx 3<|q9 (yR2 [.pointer (some ⟨x.f,0,none⟩),iX 0] .z ?_);exact⟨rfl,h.ch⟩
theorem qiS (b m:Nat)(qu lf:Int)(w:World)(hb:Blk w b [.map (some m),iX qu,xF,iX lf,xF] qi1):CP 104 [pX b].toArray w (RQ (iX 0) w):=by
 have h:=Sep.nil w;refine yA Tryz.func104 rfl<|yx 1<|ys<|ysr<|yp 11 [] (.l (qg h.ch (hb.c 2) id) .z)<|ye<|ycf<|yk<|ys<|ysr<|yp 4 [] (.l (qg h.ch (hb.c 2) id) .z)<|ye<|ycf<|yk<|yx 1<|q9 (yR1 (iX 0) ?_);exact⟨rfl,h.ch⟩
theorem append_0 (b:Nat)(qu lf:Int)(F:Nat->Prop)(a:Option Addr)(m c:Nat)(l:List Int)(w:World)(hA:(qJ b ⟨none,qu,false,lf,false⟩).P w F)(hg:Gz w F)(hr:Rd w a (u8s l))(hl:l.length=m)(hz0:a=none->c=0)(hne:∀ad,a=some ad-> ¬F ad.block)(hq:(m:Int)<=qu)(hm:m<=1000000000)(hqb:qu<=4611686018427387904):CP 69 [pX b,.string nmR,.slice a m c].toArray w fun e w'=>e= .returned (iX 0)/\qe5 (qJ b ⟨none,qu,false,lf,false⟩) (qJ b ⟨(some ⟨l,0⟩),qu,false,lf,false⟩) F w w':=by
 obtain⟨x,h⟩:=Sep.startA hA hg;refine yA Tryz.func69 rfl<|yx 1<|ys<|qa<|ysr<|yp 5 [] (.l (h.c 0 4) .z)<|ye<|ycf<|ysr<|yq 1<|yo (yQ (h.look (qpN _)) fun u h=>?_);refine yz 4<|ycf<|ys<|zDC [] [0,1] h fun u h=>ydF (uL 0 7) [] h.on (fun u h=>(.l (h.c 0 1) .z))<|yH 7 (yQ (h.look (used_0 b x qu false lf false _ ⟨h.b 0,h.ob 1⟩)) fun u h=>?_);refine zH h<|ydF (uL 8 3) [] h.on (fun u h=>(.q6 (qu-0) .z))<|yDe (nS ?_);refine yc (rL (qu-0) (m:Int)) (fun f=>?_) fun f=>?_
 ·have p:=f;exfalso;omega
 have q:=f;refine qo (nB (nS ?_));refine ys<|ysr<|yq 1<|yo (yQ (h.look (qiS b x.m qu lf _ (h.b 0))) fun u h=>?_);refine yz 3<|yx 2<|ycf<|yk<|ys<|ysr<|yp 5 [] (.l (h.c 0 0) .z)<|yo (zLk (h.ob 1) (.pointer none) ?_);refine yz 7<|yct<|q7<|yp 6 [] (.l (h.c 0 0) .z)<|yo (zN [nX,iX 0] 151 h fun u d h=>?_);refine yo (zUp (es':=(oneE d)) (c':=1) h 1 (by kernel_rfl) fun u h=>?_);refine ye<|ys<|zDC [19] [0,1,2] h fun u h=>ydF [0,1,2,3,4,6,7,8,9,10,15] [] h.on (fun u h=>(.l (h.c 0 0) (.l (h.c 0 0) .z)))<|qas 5 11 (by kernel_rfl) (by decide) ?_ ?_
 ·refine qa4 5 _ (by kernel_rfl) rfl (zLk (h.ob 1) (pX d) ?_);refine zH h<|yH 11 (zLk (h.ob 1) (pX d) ?_);refine zH h<|ydF (uL 12 3) [] h.on (fun u h=>(.l (h.c 2 0) .z))<|yH 16 (zA0 (a2:=a) (m:=m) (c2:=c) (ys:=u8s (l)) 5 1 1 h (hr.ch h.ch (fun ad e=>hne ad e)) (qN _) (by rw[qU];omega) hz0 fun u g i h r=>?_);have s:(l).length=m:=by have:=h.len1 3;rwa[hZ]at this
  refine zHa h<|ydF [17,18] [] h.on (fun u h=> .z)<|yK 19 (zs h 2 fun u h=>?_);refine q8<|yDe (nS ?_);refine yx 1<|q9 (yR1 (iX 0) ?_);exact⟨rfl,(Sep.pack (l:=[]) (L:=qe9 b ⟨some ⟨l,0⟩,qu,false,lf,false⟩) ⟨x.m,d,g,m,i⟩ (h.ord [0,1,2,3]).eqv).finS hg 0⟩
 refine qa4 11 _ (by kernel_rfl) rfl (zLk (h.ob 1) (pX d) ?_);refine zH h<|ydF (uL 12 3) [] h.on (fun u h=>(.l (h.c 2 0) .z))<|qas 5 16 (by kernel_rfl) (by decide) ?_ ?_
 ·refine qa4 5 _ (by kernel_rfl) rfl (zLk (h.ob 1) (pX d) ?_);refine zH h<|yH 16 (zA0 (a2:=a) (m:=m) (c2:=c) (ys:=u8s (l)) 5 1 1 h (hr.ch h.ch (fun ad e=>hne ad e)) (qN _) (by rw[qU];omega) hz0 fun u j k h t=>?_);have v:(l).length=m:=by have:=h.len1 3;rwa[hZ]at this
  refine zHa h<|ydF [17,18] [] h.on (fun u h=> .z)<|yK 19 (zs h 2 fun u h=>?_);refine q8<|yDe (nS ?_);refine yx 1<|q9 (yR1 (iX 0) ?_);exact⟨rfl,(Sep.pack (l:=[]) (L:=qe9 b ⟨some ⟨l,0⟩,qu,false,lf,false⟩) ⟨x.m,d,j,m,k⟩ (h.ord [0,1,2,3]).eqv).finS hg 0⟩
 refine qa4 16 _ (by kernel_rfl) rfl (zA0 (a2:=a) (m:=m) (c2:=c) (ys:=u8s (l)) 5 1 1 h (hr.ch h.ch (fun ad e=>hne ad e)) (qN _) (by rw[qU];omega) hz0 fun u n o h y=>?_);have A:(l).length=m:=by have:=h.len1 3;rwa[hZ]at this
 refine zHa h<|yH 5 (zLk (h.ob 1) (pX d) ?_);refine zH h<|ydF [17,18] [] h.on (fun u h=> .z)<|yK 19 (zs h 2 fun u h=>?_);refine q8<|yDe (nS ?_);refine yx 1<|q9 (yR1 (iX 0) ?_);exact⟨rfl,(Sep.pack (l:=[]) (L:=qe9 b ⟨some ⟨l,0⟩,qu,false,lf,false⟩) ⟨x.m,d,n,m,o⟩ (h.ord [0,1,2,3]).eqv).finS hg 0⟩
theorem append_1 (b:Nat)(q:Fl)(qu lf:Int)(F:Nat->Prop)(a:Option Addr)(m c:Nat)(l:List Int)(w:World)(hA:(qJ b ⟨(some q),qu,false,lf,false⟩).P w F)(hg:Gz w F)(hr:Rd w a (u8s l))(hl:l.length=m)(hz0:a=none->c=0)(hne:∀ad,a=some ad-> ¬F ad.block)(hq:(q.data.length:Int)+(m:Int)<=qu)(hz:q.data.length<=1000000000)(hm:m<=1000000000)(hqb:qu<=4611686018427387904):CP 69 [pX b,.string nmR,.slice a m c].toArray w fun e w'=>e= .returned (iX 0)/\qe5 (qJ b ⟨(some q),qu,false,lf,false⟩) (qJ b ⟨(some ⟨q.data++l,q.sure⟩),qu,false,lf,false⟩) F w w':=by
 obtain⟨x,h⟩:=Sep.startA hA hg;have g:=h.len1 3;rw[qU]at g;refine yA Tryz.func69 rfl<|yx 1<|ys<|qa<|ysr<|yp 5 [] (.l (h.c 0 4) .z)<|ye<|ycf<|ysr<|yq 1<|yo (yQ (h.look (qpN _)) fun u h=>?_);refine yz 4<|ycf<|ys<|zDC [] [0,1,2,3] h fun u h=>ydF (uL 0 7) [] h.on (fun u h=>(.l (h.c 0 1) .z))<|yH 7 (yQ (h.look (used_1 b x q qu false lf false _ ⟨h.b 0,h.ob 1,h.b 2,h.own 3⟩ hz)) fun u h=>?_);refine zH h<|ydF (uL 8 3) [] h.on (fun u h=>(.q6 (qu-(q.data.length:Int)) .z))<|yDe (nS ?_);refine yc (rL (qu-(q.data.length:Int)) (m:Int)) (fun d=>?_) fun d=>?_
 ·have s:=d;exfalso;omega
 have t:=d;refine qo (nB (nS ?_));refine ys<|ysr<|yq 1<|yo (yQ (h.look (qiS b x.m qu lf _ (h.b 0))) fun u h=>?_);refine yz 3<|yx 2<|ycf<|yk<|ys<|ysr<|yp 5 [] (.l (h.c 0 0) .z)<|yo (zLk (h.ob 1) (.pointer (some ⟨x.f,0,none⟩)) ?_);refine yz 7<|ycf<|yk<|ys<|zDC [19] [0,1,2] h fun u h=>ydF [0,1,2,3,4,6,7,8,9,10,15] [] h.on (fun u h=>(.l (h.c 0 0) (.l (h.c 0 0) .z)))<|qas 5 11 (by kernel_rfl) (by decide) ?_ ?_
 ·refine qa4 5 _ (by kernel_rfl) rfl (zLk (h.ob 1) (.pointer (some ⟨x.f,0,none⟩)) ?_);refine zH h<|yH 11 (zLk (h.ob 1) (.pointer (some ⟨x.f,0,none⟩)) ?_);refine zH h<|ydF (uL 12 3) [] h.on (fun u h=>(.l (h.c 2 0) .z))<|yH 16 (zA (a2:=a) (ys:=u8s (l)) 3 1 m c (x.n+m) (u8s (q.data++l)) h (hr.ch h.ch (fun ad e=>hne ad e)) (qN _) (hz:=(qaR _ _).symm) (hy:=(by rw[qU];omega)) (hn2:=hz0) fun u i j h v=>?_);have y:(q.data++l).length=(x.n+m):=by have:=h.len1 3;rwa[hZ]at this
  refine zHs h<|ydF [17,18] [] h.on (fun u h=> .z)<|yK 19 (zs h 2 fun u h=>?_);refine q8<|yDe (nS ?_);refine yx 1<|q9 (yR1 (iX 0) ?_);exact⟨rfl,(Sep.pack (l:=[]) (L:=qe9 b ⟨some ⟨q.data++l,q.sure⟩,qu,false,lf,false⟩) ⟨x.m,x.f,i,(x.n+m),j⟩ (h.ord [0,1,2,3]).eqv).finS hg 0⟩
 refine qa4 11 _ (by kernel_rfl) rfl (zLk (h.ob 1) (.pointer (some ⟨x.f,0,none⟩)) ?_);refine zH h<|ydF (uL 12 3) [] h.on (fun u h=>(.l (h.c 2 0) .z))<|qas 5 16 (by kernel_rfl) (by decide) ?_ ?_
 ·refine qa4 5 _ (by kernel_rfl) rfl (zLk (h.ob 1) (.pointer (some ⟨x.f,0,none⟩)) ?_);refine zH h<|yH 16 (zA (a2:=a) (ys:=u8s (l)) 3 1 m c (x.n+m) (u8s (q.data++l)) h (hr.ch h.ch (fun ad e=>hne ad e)) (qN _) (hz:=(qaR _ _).symm) (hy:=(by rw[qU];omega)) (hn2:=hz0) fun u k o h A=>?_);have B:(q.data++l).length=(x.n+m):=by have:=h.len1 3;rwa[hZ]at this
  refine zHs h<|ydF [17,18] [] h.on (fun u h=> .z)<|yK 19 (zs h 2 fun u h=>?_);refine q8<|yDe (nS ?_);refine yx 1<|q9 (yR1 (iX 0) ?_);exact⟨rfl,(Sep.pack (l:=[]) (L:=qe9 b ⟨some ⟨q.data++l,q.sure⟩,qu,false,lf,false⟩) ⟨x.m,x.f,k,(x.n+m),o⟩ (h.ord [0,1,2,3]).eqv).finS hg 0⟩
 refine qa4 16 _ (by kernel_rfl) rfl (zA (a2:=a) (ys:=u8s (l)) 3 1 m c (x.n+m) (u8s (q.data++l)) h (hr.ch h.ch (fun ad e=>hne ad e)) (qN _) (hz:=(qaR _ _).symm) (hy:=(by rw[qU];omega)) (hn2:=hz0) fun u p r h C=>?_);have D:(q.data++l).length=(x.n+m):=by have:=h.len1 3;rwa[hZ]at this
 refine zHs h<|yH 5 (zLk (h.ob 1) (.pointer (some ⟨x.f,0,none⟩)) ?_);refine zH h<|ydF [17,18] [] h.on (fun u h=> .z)<|yK 19 (zs h 2 fun u h=>?_);refine q8<|yDe (nS ?_);refine yx 1<|q9 (yR1 (iX 0) ?_);exact⟨rfl,(Sep.pack (l:=[]) (L:=qe9 b ⟨some ⟨q.data++l,q.sure⟩,qu,false,lf,false⟩) ⟨x.m,x.f,p,(x.n+m),r⟩ (h.ord [0,1,2,3]).eqv).finS hg 0⟩
theorem sread_0 (b:Nat)(x:StX)(qu:Int)(ar:Bool)(lf:Int)(dn:Bool)(w:World)(hS:StRd w b ⟨none,qu,ar,lf,dn⟩ x)(hd:dn=false):CP 67 [pX b,.string nmR].toArray w (RQ (.tuple #[nX,iX 4]) w):=by
 subst hd;obtain⟨hb,hm⟩:=hS;have h:=Sep.nil w;refine yA Tryz.func67 rfl<|yx 2<|ysr<|yq 2<|yo (yQ (h.look (find_0 b x qu ar lf false _ ⟨(hb.ch h.ch id),(hm.ch h.ch id)⟩ rfl)) fun u h=>?_);refine yz 8<|ys<|yx 2<|yct<|yx 3<|q9 (rS (yR2 [nX,iX 4] .z ?_));exact⟨rfl,h.ch⟩
def styG (x:Int):Sty:=⟨decide (0<qe .and .i64 x 256),decide (0<qe .and .i64 x 512),decide (0<qe .and .i64 x 1024),qe .and .i64 x 15,qe .and .i64 (Int.fdiv x (2^min (4:Int).toNat (IntKind.bits .i64))) 15⟩
set_option maxRecDepth 100000 in
theorem styG_all:∀n,n<2048->styG ((n:Nat):Int)=qjY n:=by decide+kernel
theorem qlg {s s1:RS}{x:Int}(h:qP 2048 s=(x,s1)):qgL s=if(s1.isSome&&qD (styG x))=true then(styG x,true,s1)else(qdd,false,s1):=by
 have hb:=qaa (lim:=2048) (s:=s);rw[h]at hb;dsimp only at hb;have a:=hb.2.2 (by decide);have e:styG x=qjY x.toNat:=by
  have:=styG_all x.toNat (by omega);rwa[j8 hb.1]at this
 unfold qgL;rw[h,e]
theorem qmn {l:List Cel}{c:Cel}{i k:Nat}(hik:i<=k)(hk:k<=l.length)(h:∀j:Nat,i<=j->j<k->gc l (j:Int)=c):l.drop i=List.replicate (k-i) c++l.drop k:=by
 apply List.ext_getElem?;intro j;rw[jg,List.getElem?_append,iu];split
 ·rename_i hj;rw[List.getElem?_replicate,if_pos hj,ig (by omega),<-qdf (by omega),h (i+j) (by omega) (by omega)]
 rename_i hj;rw[jg];congr 1;omega
theorem qkd (x y:Int):qag [x,y]=qv x.toNat++qv y.toNat:=by simp[qag]
theorem qpO {l:List Cel}{k:Nat}(h:k<l.length):(l.drop k).head? =some (gc l (k:Int)):=by
 rw[List.head?_drop,ig h,qdf h]
theorem qf2 {rv D:Nat}{s0 s1:RS}{t:Sty}{ok:Bool}{w:World}(hA:RdrAt w rv D s0)(hS:qgL s0=(t,ok,s1)):CP 115 [pX rv].toArray w fun e w'=>e= .returned (.tuple #[.agg #[.bool t.bold,.bool t.under,.bool t.turned,iX t.fore,iX t.back],.bool ok])/\RdrAt w' rv D s1/\Ch (· =rv) w w':=by
 refine yA Tryz.func115 rfl<|ysr<|yo (yN [xF,xF,xF,iX 0,iX 0] 84 fun P c Q am R v=>?_);have S:Ch (· =rv) w P:=zt (Ch.refl (· =rv) w) v eZ;have d:w.heap.size<=c:=by rw[Q];exact zzs (Ch.refl (· =rv) w)
 have T:=hA.ch v id id;refine yz 2<|ysr<|yq 1 ?_;obtain⟨b,U,f⟩:∃x s',qP (2048) s0=(x,s'):=⟨_,_,rfl⟩
 have y:=qaa (lim:=2048) (s:=s0);rw[f]at y;dsimp only at y;refine yo (yQ (qa3 (lim:=2048) T f (by omega)) ?_);rintro V ⟨W,A⟩;have B:Ch (· =rv) w V:=zt S A iZ;have C:=R.ch A (fun(h:c=rv)=>by have:=d;have:=hA.lt;omega);refine yz 3<|ysr<|yp 15 [] (.p (q:=0<=(4:Int)) (by omega) .z)<|yo (yN [xF,xF,xF,iX 0,iX 0] 84 fun X g Y an Z m=>?_);have a0:Ch (· =rv) w X:=zt B m eZ;have n:=zn Y B;have a1:=C.ch m id;have a2:=W.ch m id id;refine yo (yT [.bool (decide (0<(qe .and .i64 b 256))),.bool (decide (0<(qe .and .i64 b 512))),.bool (decide (0<(qe .and .i64 b 1024))),iX (qe .and .i64 b 15),iX (qe .and .i64 (Int.fdiv b (2^min (4:Int).toNat (IntKind.bits .i64))) 15)] Z fun a3 a4 o=>?_);have a5:Ch (· =rv) w a3:=zt a0 o (fun i hi (h:i=g)=>by have:=n;omega);have a6:=a1.ch o (fun(h:c=g)=>by have:=C.lt;omega);have E:=a2.ch o (fun(h:rv=g)=>by have:=n;have:=hA.lt;omega) (fun(h:D=g)=>by have:=n;have:=hA.dlt;omega);refine ye<|ys<|ysr<|yq 1<|yo (yQ (qgf E) fun a7 j=>?_);have F:Ch (· =rv) w a7:=zt a5 j eZ;have G:=a6.ch j id;have H:=E.ch j id id;have I:=a4.ch j id;refine yq 4<|yw [26] (rN (rY U.isSome)) (fun k=>?_) fun k=>?_
 ·refine yz 8<|yct<|ysr<|yq 1<|yo (yT [xF,xF,xF,iX 0,iX 0] G fun a8 a9 J=>?_);have aa:Ch (· =rv) w a8:=zt F J (fun i hi (h:i=c)=>by have:=d;omega);have ab:=H.ch J (fun(h:rv=c)=>by have:=d;have:=hA.lt;omega) (fun(h:D=c)=>by have:=d;have:=hA.dlt;omega);refine yz 3<|q9 (rS (yR2 [.agg #[xF,xF,xF,iX 0,iX 0],xF] (.a (a9.cs 0 5) .z) ?_));rw[qlg f]at hS;rw[if_neg (by rw[k];simp)]at hS;simp only[ib]at hS;obtain⟨rfl,rfl,rfl⟩:=hS;exact⟨rfl,ab,aa⟩
 refine yp 5 [] (.a (I.cs 0 5) .z)<|yo (yQ (qjk ⟨(decide (0<(qe .and .i64 b 256))),(decide (0<(qe .and .i64 b 512))),(decide (0<(qe .and .i64 b 1024))),(qe .and .i64 b 15),(qe .and .i64 (Int.fdiv b (2^min (4:Int).toNat (IntKind.bits .i64))) 15)⟩ _) fun ac l=>?_);have K:Ch (· =rv) w ac:=zt F l eZ;have L:=G.ch l id;have M:=H.ch l id id;have ad:=I.ch l id;refine yz 8<|yc (rN (rY (qD ⟨(decide (0<(qe .and .i64 b 256))),(decide (0<(qe .and .i64 b 512))),(decide (0<(qe .and .i64 b 1024))),(qe .and .i64 b 15),(qe .and .i64 (Int.fdiv b (2^min (4:Int).toNat (IntKind.bits .i64))) 15)⟩))) (fun r=>?_) fun r=>?_
 ·have u:qD (styG b)=false:=r;refine ysr<|yq 1<|yo (yT [xF,xF,xF,iX 0,iX 0] L fun ae af N=>?_);have ag:Ch (· =rv) w ae:=zt K N (fun i hi (h:i=c)=>by have:=d;omega);have ah:=M.ch N (fun(h:rv=c)=>by have:=d;have:=hA.lt;omega) (fun(h:D=c)=>by have:=d;have:=hA.dlt;omega);refine yz 3<|q9 (rS (yR2 [.agg #[xF,xF,xF,iX 0,iX 0],xF] (.a (af.cs 0 5) .z) ?_));rw[qlg f]at hS;rw[if_neg (by rw[k,u];decide)]at hS;simp only[ib]at hS;obtain⟨rfl,rfl,rfl⟩:=hS;exact⟨rfl,ah,ag⟩
 have u:qD (styG b)=true:=r;refine yk<|ysr<|yp 1 [] (.a (ad.cs 0 5) .z)<|yo (yT [.bool (decide (0<(qe .and .i64 b 256))),.bool (decide (0<(qe .and .i64 b 512))),.bool (decide (0<(qe .and .i64 b 1024))),iX (qe .and .i64 b 15),iX (qe .and .i64 (Int.fdiv b (2^min (4:Int).toNat (IntKind.bits .i64))) 15)] L fun ai aj O=>?_);have ak:Ch (· =rv) w ai:=zt K O (fun i hi (h:i=c)=>by have:=d;omega);have al:=M.ch O (fun(h:rv=c)=>by have:=d;have:=hA.lt;omega) (fun(h:D=c)=>by have:=d;have:=hA.dlt;omega);refine yz 3<|q9 (yR2 [.agg #[.bool (decide (0<(qe .and .i64 b 256))),.bool (decide (0<(qe .and .i64 b 512))),.bool (decide (0<(qe .and .i64 b 1024))),iX (qe .and .i64 b 15),iX (qe .and .i64 (Int.fdiv b (2^min (4:Int).toNat (IntKind.bits .i64))) 15)],.bool true] (.a (aj.cs 0 5) .z) ?_);rw[qlg f]at hS;rw[if_pos (by rw[k,u];rfl)]at hS;simp only[ib]at hS;obtain⟨rfl,rfl,rfl⟩:=hS;exact⟨rfl,al,ak⟩
theorem qej {o:Option Nat}{n cap:Nat}{xs:List Int}{w:World}(hO:Own w tU8 1 o n cap (u8s xs))(lb ln lc:Nat)(l:List Cel)(hr:Rd w (some ⟨lb,0,none⟩) (qan l))(hlb:lb<w.heap.size)(hne:∀b,o=some b-> ¬b=lb)(hln:l.length=ln)(hcs:∀c∈l,cOk c)(hz:n+30*ln<=1000000000):CP 58 [.slice (o.map at0) n cap,.slice (some ⟨lb,0,none⟩) ln lc].toArray w fun e w'=> ∃o' n' cap',e= .returned (.slice (o'.map at0) n' cap')/\Own w' tU8 1 o' n' cap' (u8s (xs++qa7 l))/\n'<=n+30*ln/\App w w' o o':=by
 refine yA Tryz.func58 rfl<|yx 1<|ys<|yx 1<|qa<|qV [0,1,5] (f':=[(0,.slice (o.map at0) n cap),(1,.slice (some ⟨lb,0,none⟩) ln lc),(5,iX 0)])<|qw (σ:=Nat×List Int×Option Nat×Nat×Nat) (fun⟨i,ws,g,r,s⟩=>[(0,.slice (g.map at0) r s),(1,.slice (some ⟨lb,0,none⟩) ln lc),(5,iX (i:Int))]) (fun⟨i,ws,g,r,s⟩ u=>i<=ln/\ws++qa7 (l.drop i)=qa7 l/\Own u tU8 1 g r s (u8s (xs++ws))/\App w u o g/\r<=n+30*i) (fun⟨i,ws,g,r,s⟩=>ln-i) (0,[],o,n,cap) rfl ?_ ?_
 ·exact⟨ir _,rfl,by rw[iH];exact hO,App.refl _ _,iE _⟩
 intro p ac ad aP V;obtain⟨i,ws,g,r,s⟩:=p;obtain⟨hi,B,H,C,aQ⟩:=ad;have ae:=Ch.rd C.ch hr (fun h=>hne _ h rfl);have d:=C.apart hlb hne;refine ys<|yx 4<|yc (rL (i:Int) (ln:Int)) (fun af=>?_) fun af=>?_
 ·have ag:=hcs _ (gc_mem (l:=l) (i:=i) (by omega));obtain⟨W,aR,aS⟩:=ag;refine yk<|qa<|yx 2<|ys<|qa<|qV [0,1,5,6] (f':=[(0,.slice (g.map at0) r s),(1,.slice (some ⟨lb,0,none⟩) ln lc),(5,iX (i:Int)),(6,iX (i:Int))])<|qw (σ:=Nat) (fun k=>[(0,.slice (g.map at0) r s),(1,.slice (some ⟨lb,0,none⟩) ln lc),(5,iX (i:Int)),(6,iX (k:Int))]) (fun k u=>i<=k/\k<=ln/\(∀j:Nat,i<=j->j<k->gc l (j:Int)=gc l (i:Int))/\Ch (fun _=>False) ac u) (fun k=>ln-k) i rfl ?_ ?_
  ·exact⟨iE _,hi,fun j X h2=>by omega,Ch.refl _ _⟩
  intro k aT ai aU aj;obtain⟨ak,aV,I,D⟩:=ai;have al:=H.ch D iZ;have am:=C.step D iZ;have an:=Ch.rd D ae id;refine ys<|ys<|yD [] fun aW aX E=>?_;have ao:=zt D E iZ;have Y:=al.ch E iZ;have Z:=am.step E iZ;have f:=Ch.rd E an id;refine yd (uL 0 5) [] .z<|yv [16] (rL (k:Int) (ln:Int)) (fun ap=>?_) fun ap=>?_
  ·refine yd (uL 5 10) [] (.i (k:Int) (ln) (.m (qes (i:=(k:Int)) f (by omega) (by omega)) (.m (qet (i:=(k:Int)) f (by omega) (by omega)) (.m (qd0 (i:=(k:Int)) f (by omega) (by omega)) (.m (qc7 (i:=(k:Int)) f (by omega) (by omega)) (.m (qeu (i:=(k:Int)) f (by omega) (by omega)) (.m (qev (i:=(k:Int)) f (by omega) (by omega)) (.e (.i (i:Int) (ln) (.m (qes (i:=(i:Int)) f (by omega) (by omega)) (.m (qet (i:=(i:Int)) f (by omega) (by omega)) (.m (qd0 (i:=(i:Int)) f (by omega) (by omega)) (.m (qc7 (i:=(i:Int)) f (by omega) (by omega)) (.m (qeu (i:=(i:Int)) f (by omega) (by omega)) (.m (qev (i:=(i:Int)) f (by omega) (by omega)) (.e .z))))))))))))))))<|yDe (nS ?_);refine yc (rY ((((gc l (k:Int)).rune:Int)==(gc l (i:Int)).rune)&&((((gc l (k:Int)).sty.bold==(gc l (i:Int)).sty.bold)&&(((gc l (k:Int)).sty.under==(gc l (i:Int)).sty.under)&&(((gc l (k:Int)).sty.turned==(gc l (i:Int)).sty.turned)&&((((gc l (k:Int)).sty.fore:Int)==(gc l (i:Int)).sty.fore)&&((((gc l (k:Int)).sty.back:Int)==(gc l (i:Int)).sty.back)&&true)))))&&true))) (fun t=>?_) fun t=>?_
   ·rw[qiG]at t;have aq:=eq_of_beq t;refine yk<|qa<|q7<|yp 3 [] (.q6 ((k:Int)+1) .z)<|yE (nB (fun a ha=>aj (k+1) _ ⟨by omega,by omega,fun j X h2=>(iL j k).elim (I j X) (fun h3=>by rw[show j=k by omega];exact aq),ao⟩ (by show ln-(k+1)<ln-k;omega) a (ha.kp [0,1,5,6])))
   rw[qiG]at t;have J:(l.drop k).head? ≠some (gc l (i:Int)):=by rw[qpO (by omega)];intro e;rw[zi e]at t;simp at t
   have ar:i<k:=by
    rcases Nat.eq_or_lt_of_le ak with e|e
    ·subst e;simp at t
    exact e
   refine qm (eS (qd (qb (nS ?_))));refine ys<|qaI (fun b=>g=some b) [18] (by kernel_rfl) (fun aZ b0 K=>?_);have a0:=Y.ch K iZ;have au:=Z.step K iZ;have v:=Ch.rd K f id;refine ydC [0,1,2,3,4,5,6,7,8,9,10,13,14,15,16,17] [4,10] (fun u hu=>(.q6 ((k:Int)-(i:Int)) (.p (q:=InR .u64 ((k:Int)-(i:Int))) (qao (by omega) (by omega)) (.i (i:Int) (ln) (.l (qg hu (qes (i:=(i:Int)) v (by omega) (by omega)) (fun h=>d _ h rfl)) (.p (q:=InR .u64 (gc l (i:Int)).rune) (qao (by omega) (by omega)) (.i (i:Int) (ln) (.m (qg hu (qet (i:=(i:Int)) v (by omega) (by omega)) (fun h=>d _ h rfl)) (.m (qg hu (qd0 (i:=(i:Int)) v (by omega) (by omega)) (fun h=>d _ h rfl)) (.m (qg hu (qc7 (i:=(i:Int)) v (by omega) (by omega)) (fun h=>d _ h rfl)) (.m (qg hu (qeu (i:=(i:Int)) v (by omega) (by omega)) (fun h=>d _ h rfl)) (.m (qg hu (qev (i:=(i:Int)) v (by omega) (by omega)) (fun h=>d _ h rfl)) (.e .z)))))))))))))<|yH 11 (yB [.int .u64 ((k:Int)-(i:Int)),.int .u64 (gc l (i:Int)).rune] 110 2 fun b1 av b2 b3 F L=>?_);have M:=zv (b:=av) a0;have aw:=a0.ch L iZ;have a1:=au.step L iZ;refine qA L eZ<|yH 12 (yC (qcF 2 [((k:Int)-(i:Int)),(gc l (i:Int)).rune] aw (Rd.all F) (bC (bC bN)) F.lt M) ?_)
   rintro _ b4 ⟨b5,b6,b7,rfl,ax,b8,y⟩;refine⟨_,rfl,?_⟩;have ay:=y.apart (ic hlb a1.ch.size) d;have az:=y.apart F.lt M;have a2:=a1.trans y;have aA:=F.ch y.ch (fun h=>M _ h rfl);refine qA y.ch iZ<|yK 18 (yC (qdH ax (gc l (i:Int)).sty W (by omega)) ?_);rintro _ aB ⟨a3,a4,a5,rfl,aC,b9,N⟩;refine⟨_,rfl,?_⟩;have ba:=N.apart (ic hlb a2.ch.size) ay;have bb:=N.apart aA.lt az;have aD:=a2.trans N;refine q8<|yd [19] [] .z<|yDe (nS ?_);refine q7<|yq 2 ?_;have O:((k:Int)-(i:Int):Int).toNat=k-i:=by omega
   have P:(ws++qdy (k-i) (gc l (i:Int)))++qa7 (l.drop k)=qa7 l:=by
    rw[<-B,qmn (c:=(gc l (i:Int))) (by omega) (by omega) I,show k-i=(k-i-1)+1 by omega,qdz J,ie]
   have Q:Own aB tU8 1 a3 a4 a5 (u8s (xs++(ws++qdy (k-i) (gc l (i:Int))))):=by
    have h:=aC;rw[qkd,O]at h;unfold qdy;simp only[ie]at h⊢;exact h
   refine yE (nB (fun a ha=>V (k,ws++qdy (k-i) (gc l (i:Int)),a3,a4,a5) _ ⟨by omega,P,Q,aD,by omega⟩ (by show ln-k<ln-i;omega) a (ha.kp [0,1,5])))
  have J:(l.drop k).head? ≠some (gc l (i:Int)):=by rw[jF (by omega)];simp
  have ar:i<k:=by omega
  refine yd (uL 5 10) [] .z<|yDe (nS ?_);refine ycf<|qm (eS (qd (qb (nS ?_))));refine ys<|qaI (fun b=>g=some b) [18] (by kernel_rfl) (fun bc bd R=>?_);have a6:=Y.ch R iZ;have aE:=Z.step R iZ;have x:=Ch.rd R f id;refine ydC [0,1,2,3,4,5,6,7,8,9,10,13,14,15,16,17] [4,10] (fun u hu=>(.q6 ((k:Int)-(i:Int)) (.p (q:=InR .u64 ((k:Int)-(i:Int))) (qao (by omega) (by omega)) (.i (i:Int) (ln) (.l (qg hu (qes (i:=(i:Int)) x (by omega) (by omega)) (fun h=>d _ h rfl)) (.p (q:=InR .u64 (gc l (i:Int)).rune) (qao (by omega) (by omega)) (.i (i:Int) (ln) (.m (qg hu (qet (i:=(i:Int)) x (by omega) (by omega)) (fun h=>d _ h rfl)) (.m (qg hu (qd0 (i:=(i:Int)) x (by omega) (by omega)) (fun h=>d _ h rfl)) (.m (qg hu (qc7 (i:=(i:Int)) x (by omega) (by omega)) (fun h=>d _ h rfl)) (.m (qg hu (qeu (i:=(i:Int)) x (by omega) (by omega)) (fun h=>d _ h rfl)) (.m (qg hu (qev (i:=(i:Int)) x (by omega) (by omega)) (fun h=>d _ h rfl)) (.e .z)))))))))))))<|yH 11 (yB [.int .u64 ((k:Int)-(i:Int)),.int .u64 (gc l (i:Int)).rune] 110 2 fun bf aF bg bh G S=>?_);have T:=zv (b:=aF) a6;have aG:=a6.ch S iZ;have a7:=aE.step S iZ;refine qA S eZ<|yH 12 (yC (qcF 2 [((k:Int)-(i:Int)),(gc l (i:Int)).rune] aG (Rd.all G) (bC (bC bN)) G.lt T) ?_)
  rintro _ bi ⟨bj,bk,bl,rfl,aH,bm,A⟩;refine⟨_,rfl,?_⟩;have aI:=A.apart (ic hlb a7.ch.size) d;have aJ:=A.apart G.lt T;have a8:=a7.trans A;have aK:=G.ch A.ch (fun h=>T _ h rfl);refine qA A.ch iZ<|yK 18 (yC (qdH aH (gc l (i:Int)).sty W (by omega)) ?_);rintro _ aL ⟨a9,aa,ab,rfl,aM,bn,U⟩;refine⟨_,rfl,?_⟩;have bo:=U.apart (ic hlb a8.ch.size) aI;have bp:=U.apart aK.lt aJ;have aN:=a8.trans U;refine q8<|yd [19] [] .z<|yDe (nS ?_);refine q7<|yq 2 ?_;have O:((k:Int)-(i:Int):Int).toNat=k-i:=by omega
  have P:(ws++qdy (k-i) (gc l (i:Int)))++qa7 (l.drop k)=qa7 l:=by
   rw[<-B,qmn (c:=(gc l (i:Int))) (by omega) (by omega) I,show k-i=(k-i-1)+1 by omega,qdz J,ie]
  have Q:Own aL tU8 1 a9 aa ab (u8s (xs++(ws++qdy (k-i) (gc l (i:Int))))):=by
   have h:=aM;rw[qkd,O]at h;unfold qdy;simp only[ie]at h⊢;exact h
  refine yE (nB (fun a ha=>V (k,ws++qdy (k-i) (gc l (i:Int)),a9,aa,ab) _ ⟨by omega,P,Q,aN,by omega⟩ (by show ln-k<ln-i;omega) a (ha.kp [0,1,5])))
 refine qm (eS (qd (qb (nS ?_))));refine yx 2<|q9 (yR1 (.slice (g.map at0) r s) ?_);rw[jF (by omega)]at B;have aO:ws=qa7 l:=by rw[<-B];exact(iH _).symm
 rw[aO]at H;exact⟨_,_,_,rfl,H,by omega,C⟩
def okAt (l:List Cel)(i:Nat):Prop:=((gc l (i:Int)).rune=0->qZ l ((i:Int)-1)=true)/\((gc l (i:Int)).rune≠0->qkE (gc l (i:Int))=true/\(qb1 (gc l (i:Int)).rune=true->qZ l (i:Int)=true))
theorem qlh {l:List Cel}{k:Nat}(h:∀i:Nat,i<k->okAt l i)(hb:okAt l k):∀i:Nat,i<k+1->okAt l i:=fun i hi=>by
  rcases iL i k with h'|h'
  · exact h i h'
  · obtain rfl:i=k:=by omega
    exact hb
theorem qpP (b n cap:Nat)(l:List Cel)(w:World)(hT:qai w)(hr:Rd w (some ⟨b,0,none⟩) (qan l))(hb:b<w.heap.size)(hln:l.length=n)(hnb:n<=1000000):CP 136 [.slice (some ⟨b,0,none⟩) n cap].toArray w (RQ (.bool (qb6 l)) w):=by
 refine yA Tryz.func136 rfl<|yx 1<|ys<|yx 3<|qa<|qV [0,5,6,7] (f':=[(0,.slice (some ⟨b,0,none⟩) n cap),(5,.slice (some ⟨b,0,none⟩) n cap),(6,iX (n:Int)),(7,iX 0)])<|qw (σ:=Nat) (fun k=>[(0,.slice (some ⟨b,0,none⟩) n cap),(5,.slice (some ⟨b,0,none⟩) n cap),(6,iX (n:Int)),(7,iX (k:Int))]) (fun k u=>k<=n/\(∀i:Nat,i<k->okAt l i)/\Ch (fun _=>False) w u) (fun k=>n-k) 0 rfl ?_ ?_
 ·exact⟨ir _,fun i hi=>absurd hi (j0 i),Ch.refl _ _⟩
 intro k ae R af x;obtain⟨hk,d,g⟩:=R;have r:=zu (zm w) g iZ;have S:=qi g hT id id;have f:=Ch.rd g hr id;refine yx 1<|ys<|yc (rL (k:Int) (n:Int)) (fun T=>?_) fun T=>?_
 ·refine yk<|ys<|qa<|ysr<|yp 3 [] (.i (k:Int) (n) (.m (qes (i:=(k:Int)) f (by omega) (by omega)) (.m (qet (i:=(k:Int)) f (by omega) (by omega)) (.m (qd0 (i:=(k:Int)) f (by omega) (by omega)) (.m (qc7 (i:=(k:Int)) f (by omega) (by omega)) (.m (qeu (i:=(k:Int)) f (by omega) (by omega)) (.m (qev (i:=(k:Int)) f (by omega) (by omega)) (.e .z))))))))<|yo (yN [rX 0,xF,xF,xF,iX 0,iX 0] 159 fun ag j G ah U s=>?_);have ai:=zn G r;have aj:=zn G g;have V:=zu r s iZ;have W:=zt g s eZ;have X:=qi s S id id;have Y:=Ch.rd s f id;refine yq 5<|yo (yT [rX (gc l (k:Int)).rune,.bool (gc l (k:Int)).sty.bold,.bool (gc l (k:Int)).sty.under,.bool (gc l (k:Int)).sty.turned,iX (gc l (k:Int)).sty.fore,iX (gc l (k:Int)).sty.back] U fun ak y t=>?_);have A:=zu V t (fun i hi (h:i=j)=>by omega);have H:=zt W t (fun i hi (h:i=j)=>by omega);have I:=qi t X (fun(h:qe3=j)=>by have:=qc4 hT;omega) (fun(h:qc3=j)=>by have:=qc4 hT;omega);have J:=Ch.rd t Y (fun(h:b=j)=>by have:=(ic hb (zzs r));omega);refine ye<|qa<|ysr<|yp 4 [] (.l (y.c 0) .z)<|ye<|yc (rE (gc l (k:Int)).rune 0) (fun B=>?_) fun B=>?_
  ·have Z:=B;refine ysr<|yp 3 [] (.q6 ((k:Int)-1) .z) ?_;refine yo (yQ (qcK b n cap l ((k:Int)-1) _ I J (ic hb (zzs A)) hln (by omega) (by constructor<;>omega)) fun al K=>?_);have a0:=zu A K iZ;have a1:=zt H K eZ;refine yz 5<|yc (rN (rY (qZ l ((k:Int)-1)))) (fun C=>?_) fun C=>?_
   ·have a2:=C;refine yx 1<|q9 (rB (rB (rS (qy (rB (rS (yR1 (xF) ?_)))))));refine⟨zc ?_,Up.ch a0⟩;exact(iY.2 fun h=>by
     have o:=wholeB_iff.1 h k (by omega);clear h d;simp[Z,a2]at o).symm
   have am:=C;refine qo (nB (nB (nS ?_)));refine q7<|yp 2 [] (.q6 ((k:Int)+1) .z)<|yE (fun a ha=>x (k+1) _ ⟨by omega,qlh d ⟨fun p=>by simp_all,fun p=>by simp_all⟩,a1⟩ (by show n-(k+1)<n-k;omega) a (ha.kp [0,5,6,7]))
  have L:=B;refine ysr<|yp 1 [] (.a (y.cs 0 6) .z)<|yo (yQ (qlG (gc l (k:Int)) _) fun an q=>?_);have M:=zu A q iZ;have a3:=zt H q eZ;have N:=qi q I id id;have a4:=Ch.rd q J id;have a5:=y.ch q id;refine yq 4<|yw [25] (rN (rY (qkE (gc l (k:Int))))) (fun D=>?_) fun D=>?_
  ·have a6:=D;refine yz 15<|yct<|yx 1<|q9 (rB (rB (rS (qy (rB (rS (yR1 (xF) ?_)))))));refine⟨zc ?_,Up.ch M⟩;exact(iY.2 fun h=>by
    have o:=wholeB_iff.1 h k (by omega);clear h d;simp[L,a6]at o).symm
  have a7:=D;refine yp 6 [] (.l (a5.c 0) .z)<|yo (yQ (qbK (gc l (k:Int)).rune _ N.1) fun ao hq=>?_);have v:=qc8 hq;clear hq;have O:=zu M v iZ;have P:=zt a3 v eZ;have a8:=qi v N id id;have a9:=Ch.rd v a4 id;refine yq 8<|yw [29] (rY (qb1 (gc l (k:Int)).rune)) (fun E=>?_) fun E=>?_
  ·have aa:=E;refine yq 10 ?_;refine yo (yQ (qcK b n cap l (k:Int) _ a8 a9 (ic hb (zzs O)) hln (by omega) (by constructor<;>omega)) fun ap Q=>?_);have ab:=zu O Q iZ;have ac:=zt P Q eZ;refine yz 15<|yc (rN (rY (qZ l (k:Int)))) (fun F=>?_) fun F=>?_
   ·have ad:=F;refine yx 1<|q9 (rB (rB (rS (qy (rB (rS (yR1 (xF) ?_)))))));refine⟨zc ?_,Up.ch ab⟩;exact(iY.2 fun h=>by
     have o:=wholeB_iff.1 h k (by omega);clear h d;simp[L,a7,aa,ad]at o).symm
   have aq:=F;refine qo (nB (nB (nS ?_)));refine q7<|yp 2 [] (.q6 ((k:Int)+1) .z)<|yE (fun a ha=>x (k+1) _ ⟨by omega,qlh d ⟨fun p=>by simp_all,fun p=>by simp_all⟩,ac⟩ (by show n-(k+1)<n-k;omega) a (ha.kp [0,5,6,7]))
  have ar:=E;refine yz 15<|ycf<|qo (nB (nB (nS ?_)));refine q7<|yp 2 [] (.q6 ((k:Int)+1) .z)<|yE (fun a ha=>x (k+1) _ ⟨by omega,qlh d ⟨fun p=>by simp_all,fun p=>by simp_all⟩,P⟩ (by show n-(k+1)<n-k;omega) a (ha.kp [0,5,6,7]))
 have au:k=n:=by omega
 refine qm (eS (qd (qb (nS ?_))));refine yx 1<|q9 (yR1 (.bool true) ?_);refine⟨zc ?_,Up.ch r⟩;exact(wholeB_iff.2 fun i hi=>d i (by omega)).symm
theorem qpQ {w:World}{a:Option Addr}{n:Nat}{ro:List Row}{FB:Nat->Prop}(hz:a=none\/ ∃b off,a=some ⟨b,off,none⟩)(h:LinesAt w a n ro FB)(hn:0<n):∃b off,a=some ⟨b,off,none⟩:=by
 rcases hz with rfl|hz
 ·have e:=h.rd.1 rfl;have:=h.len;rw[ki]at e;subst e;simp at this;omega
 exact hz
theorem qgV {w:World}{b off:Nat}{rows:List Row}(h:Rd w (some ⟨b,off,none⟩) (rows.map Row.val)){k:Nat}{x:Row}(hx:rows[k]? =some x):w.cell? ⟨b,off+(k:Int).toNat*1,none⟩=some x.val:=by
 rw[il,iN];exact qcg h k _ (by rw[iM,hx];rfl)
theorem qke (l:List Cel)(c:Cel):qan l++c.vals=qan (l++[c]):=by rw[qbL,qan,qan];simp
theorem qpR {l:List Cel}{n:Nat}(hn:l.length=n)(h:0<n):l.getLast? =some (gc l ((n:Int)-1)):=by
 rw[List.getLast?_eq_getElem?,ig (by omega),show((n:Int)-1)=((l.length-1:Nat):Int) by omega,qdf (by omega)]
theorem qgW {w:World}{e:TypeId}{sz:Nat}{o:Option Nat}{n cap:Nat}{xs:List Value}(h:Own w e sz o n cap xs)(hn:0<n):∃b,o=some b:=by
 cases o with
 |none=>have:=(h.2.2.2.1 rfl).1;omega
 |some b=>exact⟨b,rfl⟩
theorem qli {W:Int}{s0 s s':RS}{f:Nat}{l:List Cel}(h:qc0 f W l s=qc0 W.toNat W [] s0)(e:qc0 f W l s=(none,s')):qdA W s0=([],false,s'):=by
 unfold qdA;rw[<-h,e]
theorem qiT {W:Int}{s0 s s':RS}{f:Nat}{l o:List Cel}(h:qc0 f W l s=qc0 W.toNat W [] s0)(e:qc0 f W l s=(some o,s')):qdA W s0=if qb6 o=true then(o,true,s')else([],false,s'):=by
 unfold qdA;rw[<-h,e]
theorem qpS (w:World):CP 136 [nX].toArray w (RQ (.bool (qb6 [])) w):=by
 refine yA Tryz.func136 rfl<|yx 1<|ys<|yx 3<|qa<|yU 1 (yU1 ?_);refine yx 1<|ys<|ycf<|qm (eS (qd (qb (nS ?_))));refine yx 1<|q9 (yR1 (.bool true) ?_);exact⟨rfl,Up.ch (zm w)⟩
theorem qmo {α:Type}{b:Bool}{x y:α}(h:b=false):(if b=true then x else y)=y:=by rw[h];rfl
theorem qkf {rv D:Nat}{s0 s1:RS}{W:Int}{l:List Cel}{ok:Bool}{w:World}(hA:RdrAt w rv D s0)(hT:qai w)(h7:gTop<=rv)(hW:0<=W/\W<=1000)(hL:qdA W s0=(l,ok,s1)):CP 116 [pX rv,iX W].toArray w fun e w'=>
 ∃o n cap,e= .returned (.tuple #[.slice (o.map at0) n cap,.bool ok])/\l.length=n/\Own w' qdn 6 o n cap (qan l)/\(∀b,o=some b->w.heap.size<=b)/\RdrAt w' rv D s1/\Ch (· =rv) w w':=by
 refine yA Tryz.func116 rfl<|yx 2<|yx 1<|ys<|qa<|qV [0,1,6] (f':=[(0,pX rv),(1,iX W),(6,nX)])<|qw (σ:=List Cel×RS×Option Nat×Nat×Nat) (fun⟨l,s,o,n,cap⟩=>[(0,pX rv),(1,iX W),(6,.slice (o.map at0) n cap)]) (fun⟨l,s,o,n,cap⟩ u=>(∃f,W.toNat-l.length<=f/\qc0 f W l s=qc0 W.toNat W [] s0)/\l.length=n/\(n:Int)<=W/\Own u qdn 6 o n cap (qan l)/\(∀b,o=some b->w.heap.size<=b)/\RdrAt u rv D s/\Ch (· =rv) w u) (fun⟨l,s,o,n,cap⟩=>W.toNat-l.length) ([],s0,none,0,0) rfl ?_ ?_
 ·exact⟨⟨W.toNat,by simp,rfl⟩,rfl,by omega,Own.nil _ _ _,(fun b e=>by cases e),hA,Ch.refl _ _⟩
 intro p c9 aL ca ak;obtain⟨l,s,o,n,cap⟩:=p;obtain⟨⟨f,hf,A⟩,C,cb,hO,G,a7,T⟩:=aL;have cc:n<=cap:=hO.2.1;refine ys<|yx 4<|yc (rL ((n:Nat):Int) W) (fun aM=>?_) fun aM=>?_
 ·refine yk<|qa<|ysr<|yp 6 [] (.q6 (W-((n:Nat):Int)) (.q6 ((W-((n:Nat):Int))+1) .z)) ?_;obtain⟨k,al,H⟩:∃x s',qP (((W-((n:Nat):Int))+1)) s=(x,s'):=⟨_,_,rfl⟩
  have am:=qaa (lim:=((W-((n:Nat):Int))+1)) (s:=s);rw[H]at am;dsimp only at am;refine yo (yQ (qa3 (lim:=((W-((n:Nat):Int))+1)) a7 H (by omega)) ?_);rintro aN ⟨aO,an⟩;have aP:Ch (· =rv) w aN:=zt T an iZ;have aQ:=hO.ch an (fun b e (h:b=rv)=>by have:=G b e;have:=hA.lt;omega);refine yq 8 ?_;obtain⟨d,aR,I⟩:∃x s',qP (1114112) al=(x,s'):=⟨_,_,rfl⟩
  have ao:=qaa (lim:=1114112) (s:=al);rw[I]at ao;dsimp only at ao;refine yo (yQ (qa3 (lim:=1114112) aO I (by omega)) ?_);rintro aS ⟨aT,ap⟩;have aq:Ch (· =rv) w aS:=zt aP ap iZ;have ar:=aQ.ch ap (fun b e (h:b=rv)=>by have:=G b e;have:=hA.lt;omega);refine yp 11 [] (.q3 d .z)<|yo (yN [rX 0,xF,xF,xF,iX 0,iX 0] 159 fun aU r aV cd aW a8=>?_);have U:=zv (b:=r) ar;have aX:Ch (· =rv) w aU:=zt aq a8 eZ;have J:=zn aV aq;have aY:=ar.ch a8 iZ;have aZ:=aT.ch a8 id id;refine yq 13<|yo (yT [rX d,xF,xF,xF,iX 0,iX 0] aW fun b0 b1 a9=>?_);have b2:Ch (· =rv) w b0:=zt aX a9 (fun i hi (h:i=r)=>by have:=J;omega);have b3:=aY.ch a9 (fun b e (h:b=r)=>U b e h);have b4:=aZ.ch a9 (fun(h:rv=r)=>by have:=J;have:=hA.lt;omega) (fun(h:D=r)=>by have:=J;have:=hA.dlt;omega);refine ye<|ysr<|yq 1 ?_;obtain⟨c,b5,V,M⟩:∃t ok s',qgL aR=(t,ok,s'):=⟨_,_,_,rfl⟩
  refine yo (yQ (qf2 b4 M) ?_);rintro b6 ⟨b7,aa⟩;have au:Ch (· =rv) w b6:=zt b2 aa iZ;have av:=b3.ch aa (fun b e (h:b=rv)=>by have:=G b e;have:=hA.lt;omega);have aw:=b1.ch aa (fun(h:r=rv)=>by have:=J;have:=hA.lt;omega);refine yq 5<|yo (yN [xF,xF,xF,iX 0,iX 0] 84 fun b8 N b9 ce ba X=>?_);have bb:=zv (b:=N) av;have bc:Ch (· =rv) w b8:=zt au X eZ;have ab:=zn b9 au;have bd:=av.ch X iZ;have bf:=aw.ch X id;have bg:=b7.ch X id id;refine yo (yT [.bool c.bold,.bool c.under,.bool c.turned,iX c.fore,iX c.back] ba fun bh bi Y=>?_);have bj:Ch (· =rv) w bh:=zt bc Y (fun i hi (h:i=N)=>by have:=ab;omega);have bk:=bd.ch Y (fun b e (h:b=N)=>bb b e h);have bl:=bf.ch Y (fun(h:r=N)=>by have:=aw.lt;omega);have bm:=bg.ch Y (fun(h:rv=N)=>by have:=ab;have:=hA.lt;omega) (fun(h:D=N)=>by have:=ab;have:=hA.dlt;omega);refine yz 8<|ysr<|yp 2 [] (.a (bi.cs 0 5) .z)<|yo (yT [rX d,.bool c.bold,.bool c.under,.bool c.turned,iX c.fore,iX c.back] bl fun bn bo ac=>?_);have bp:Ch (· =rv) w bn:=zt bj ac (fun i hi (h:i=r)=>by have:=J;omega);have bq:=bk.ch ac (fun b e (h:b=r)=>U b e h);have br:=bm.ch ac (fun(h:rv=r)=>by have:=J;have:=hA.lt;omega) (fun(h:D=r)=>by have:=J;have:=hA.dlt;omega);refine ye<|ys<|ys<|yD [] fun bs cf Z=>?_;have O:Ch (· =rv) w bs:=zt bp Z eZ;have E:=bq.ch Z iZ;have P:=br.ch Z id id
  have ad:=bo.ch Z id;refine yd (uL 0 3) [] .z<|yv [35] (rN (rY b5)) (fun a0=>?_) fun a0=>?_
  ·refine yd (uL 3 18) [] .z<|yDe (nS ?_);refine yct<|yx 2<|q9 (rS (rB (qy (rB (rS (yR2 [nX,xF] .z ?_))))));have hS:=qcA (W:=W) (out:=l) (by rw[C];exact H) I M;rw[if_pos (.inl a0)]at hS;have hR:=qli A (qgM (by omega) hf hS);rw[hL]at hR;simp only[ib]at hR;obtain⟨rfl,rfl,rfl⟩:=hR;exact⟨none,0,0,rfl,rfl,Own.nil _ _ _,(fun b e=>by cases e),P,O⟩
  refine yd (uL 3 4) [] .z<|yv [39] (rE k 0) (fun a1=>?_) fun a1=>?_
  ·refine yd (uL 7 14) [] .z<|yDe (nS ?_);refine yct<|yx 2<|q9 (rS (rB (qy (rB (rS (yR2 [nX,xF] .z ?_))))));have hS:=qcA (W:=W) (out:=l) (by rw[C];exact H) I M;rw[if_pos (.inr (.inl a1))]at hS;have hR:=qli A (qgM (by omega) hf hS);rw[hL]at hR;simp only[ib]at hR;obtain⟨rfl,rfl,rfl⟩:=hR;exact⟨none,0,0,rfl,rfl,Own.nil _ _ _,(fun b e=>by cases e),P,O⟩
  refine yd (uL 7 4) [] .z<|yv [43] (rL 0 ((n:Nat):Int)) (fun bt=>?_) fun bt=>?_
  ·obtain⟨ob,rfl⟩:=qgW E (by omega);refine yd (uL 11 10) [] (.q6 (((n:Nat):Int)-1) (.i (((n:Nat):Int)-1) (n) (.m (qes (i:=(((n:Nat):Int)-1)) (Own.rd E) (by omega) (by omega)) (.m (qet (i:=(((n:Nat):Int)-1)) (Own.rd E) (by omega) (by omega)) (.m (qd0 (i:=(((n:Nat):Int)-1)) (Own.rd E) (by omega) (by omega)) (.m (qc7 (i:=(((n:Nat):Int)-1)) (Own.rd E) (by omega) (by omega)) (.m (qeu (i:=(((n:Nat):Int)-1)) (Own.rd E) (by omega) (by omega)) (.m (qev (i:=(((n:Nat):Int)-1)) (Own.rd E) (by omega) (by omega)) (.e (.a (ad.cs 0 6) .z))))))))))<|yDe (nS ?_);refine yc (rY ((((gc l (((n:Nat):Int)-1)).rune:Int)==d)&&((((gc l (((n:Nat):Int)-1)).sty.bold==c.bold)&&(((gc l (((n:Nat):Int)-1)).sty.under==c.under)&&(((gc l (((n:Nat):Int)-1)).sty.turned==c.turned)&&((((gc l (((n:Nat):Int)-1)).sty.fore:Int)==c.fore)&&((((gc l (((n:Nat):Int)-1)).sty.back:Int)==c.back)&&true)))))&&true))) (fun ae=>?_) fun ae=>?_
   ·have a2:=(qiG (gc l (((n:Nat):Int)-1)) (Cel.mk d c)).symm.trans ae;refine yx 2<|q9 (rS (rB (qy (rB (rS (yR2 [nX,xF] .z ?_))))));have hS:=qcA (W:=W) (out:=l) (by rw[C];exact H) I M;rw[if_pos (.inr (.inr (by rw[qpR C (by omega),eq_of_beq a2])))]at hS;have hR:=qli A (qgM (by omega) hf hS);rw[hL]at hR;simp only[ib]at hR;obtain⟨rfl,rfl,rfl⟩:=hR;exact⟨none,0,0,rfl,rfl,Own.nil _ _ _,(fun b e=>by cases e),P,O⟩
   have a2:=(qiG (gc l (((n:Nat):Int)-1)) (Cel.mk d c)).symm.trans ae;refine yk<|yx 2<|qa ?_;have hS:=qcA (W:=W) (out:=l) (by rw[C];exact H) I M;rw[if_neg (by rintro (h|h|h);exact absurd (a0.symm.trans h) (by decide);exact a1 h;exact absurd h (by rw[qpR C (by omega)];intro e;rw[zi e]at a2;simp at a2))]at hS;refine qV [0,1,6,8,54,55] (f':=[(0,pX rv),(1,iX W),(6,.slice (some ⟨ob,0,none⟩) n cap),(8,pX r),(54,iX k),(55,iX 0)])<|qw (σ:=Nat×Option Nat×Nat×Nat) (fun⟨j,v,g,y⟩=>[(0,pX rv),(1,iX W),(6,.slice (v.map at0) g y),(8,pX r),(54,iX k),(55,iX (j:Int))]) (fun⟨j,v,g,y⟩ u=>(j:Int)<=k/\Own u qdn 6 v g y (qan (l++List.replicate j (Cel.mk d c)))/\g=n+j/\(∀b,v=some b->w.heap.size<=b)/\(∀b,v=some b-> ¬b=r)/\Blk u r [rX d,.bool c.bold,.bool c.under,.bool c.turned,iX c.fore,iX c.back] 159/\RdrAt u rv D V/\Ch (· =rv) w u) (fun⟨j,v,g,y⟩=>(k:Int).toNat-j) (0,(some ob),n,cap) rfl ?_ ?_
   ·exact⟨by omega,by rw[List.replicate_zero,iH];exact E,rfl,G,U,ad,P,O⟩
   intro q cg bu ci bv;obtain⟨j,v,g,y⟩:=q;obtain⟨bw,F,bx,B,Q,R,S,K⟩:=bu;have bz:g<=y:=F.2.1;refine yx 1<|ys<|yc (rL (j:Int) k) (fun af=>?_) fun af=>?_
   ·refine yk<|ys<|qa<|q7<|yp 2 [] (.a (R.cs 0 6) .z)<|yo (yB [rX d,.bool c.bold,.bool c.under,.bool c.turned,iX c.fore,iX c.back] 159 1 fun bA ax bB cj bC a3=>?_);have ck:=zv (b:=ax) F;have ay:Ch (· =rv) w bA:=zt K a3 eZ;have cl:=zn bB K;have bD:=F.ch a3 iZ;have bE:=S.ch a3 id id;have az:=R.ch a3 id;refine yo (qaE 159 6 32 v g y (qan (l++List.replicate j (Cel.mk d c))) (some ⟨ax,0,none⟩) 1 1 [rX d,.bool c.bold,.bool c.under,.bool c.turned,iX c.fore,iX c.back] (some 60) (g+1) rfl (qan ((l++List.replicate j (Cel.mk d c))++[(Cel.mk d c)])) (qke (l++List.replicate j (Cel.mk d c)) (Cel.mk d c)) (by kernel_rfl) bD (Rd.all bC) rfl rfl (fun h=>by cases h) (by constructor<;>first|omega|(simp only[maxLen];omega)) ?_);intro bF aA bG bH aB cm a4;have bI:∀b,aA=some b->w.heap.size<=b:=fun b e=>by
     rcases aB with h|⟨g',h,h'⟩
     ·exact B b (h▸e)
     rw[h]at e;have:=zi e;have:=zzs ay;omega
    have bJ:=App.of aB a4;have bK:=bJ.apart az.lt Q;have bL:Ch (· =rv) w bF:=zt ay a4 (fun i hi h=>by have:=B _ h;omega);have bM:=bE.ch a4 (fun h=>by have:=B _ h;have:=hA.lt;omega) (fun h=>by have:=B _ h;have:=hA.dlt;omega);have bN:=az.ch a4 (fun h=>Q _ h rfl);refine yq 5<|yE (nB (nS ?_));refine q7<|yp 2 [] (.q6 ((j:Int)+1) .z)<|yE (fun a ha=>bv (j+1,aA,(g+1),bG) _ ⟨by omega,by rw[jL,<-ie];exact bH,by omega,bI,bK,bN,bM,bL⟩ (by show(k:Int).toNat-(j+1)<(k:Int).toNat-j;omega) a (ha.kp [0,1,6,8,54,55]))
   have ag:j=(k:Int).toNat:=by omega
   subst ag;obtain⟨f',bO,ah⟩:=qm9 (by omega) hf hS;rw[ah]at A;refine qm (eS (qd (qb (nB (fun a ha=>ak (l++List.replicate (k:Int).toNat (Cel.mk d c),V,v,g,y) _ ⟨⟨f',by rw[hJ,iu];omega,A⟩,by rw[hJ,iu];omega,by omega,F,B,S,K⟩ (by show W.toNat-(l++List.replicate (k:Int).toNat (Cel.mk d c)).length<W.toNat-l.length;rw[hJ,iu];omega) a (ha.kp [0,1,6]))))))
  refine yd (uL 11 10) [] .z<|yDe (nS ?_);refine ycf<|yk<|yx 2<|qa ?_;have hS:=qcA (W:=W) (out:=l) (by rw[C];exact H) I M;rw[if_neg (by rintro (h|h|h);exact absurd (a0.symm.trans h) (by decide);exact a1 h;exact absurd h (by rw[iy (show l.length=0 by omega)];intro e;cases e))]at hS;refine qV [0,1,6,8,54,55] (f':=[(0,pX rv),(1,iX W),(6,.slice (o.map at0) n cap),(8,pX r),(54,iX k),(55,iX 0)])<|qw (σ:=Nat×Option Nat×Nat×Nat) (fun⟨j,v,g,y⟩=>[(0,pX rv),(1,iX W),(6,.slice (v.map at0) g y),(8,pX r),(54,iX k),(55,iX (j:Int))]) (fun⟨j,v,g,y⟩ u=>(j:Int)<=k/\Own u qdn 6 v g y (qan (l++List.replicate j (Cel.mk d c)))/\g=n+j/\(∀b,v=some b->w.heap.size<=b)/\(∀b,v=some b-> ¬b=r)/\Blk u r [rX d,.bool c.bold,.bool c.under,.bool c.turned,iX c.fore,iX c.back] 159/\RdrAt u rv D V/\Ch (· =rv) w u) (fun⟨j,v,g,y⟩=>(k:Int).toNat-j) (0,o,n,cap) rfl ?_ ?_
  ·exact⟨by omega,by rw[List.replicate_zero,iH];exact E,rfl,G,U,ad,P,O⟩
  intro q cn bP co bQ;obtain⟨j,v,g,y⟩:=q;obtain⟨bw,F,bx,B,Q,R,S,K⟩:=bP;have bz:g<=y:=F.2.1;refine yx 1<|ys<|yc (rL (j:Int) k) (fun af=>?_) fun af=>?_
  ·refine yk<|ys<|qa<|q7<|yp 2 [] (.a (R.cs 0 6) .z)<|yo (yB [rX d,.bool c.bold,.bool c.under,.bool c.turned,iX c.fore,iX c.back] 159 1 fun bR aC bS cp bT a5=>?_);have cq:=zv (b:=aC) F;have aD:Ch (· =rv) w bR:=zt K a5 eZ;have cr:=zn bS K;have bU:=F.ch a5 iZ;have bV:=S.ch a5 id id;have aE:=R.ch a5 id;refine yo (qaE 159 6 32 v g y (qan (l++List.replicate j (Cel.mk d c))) (some ⟨aC,0,none⟩) 1 1 [rX d,.bool c.bold,.bool c.under,.bool c.turned,iX c.fore,iX c.back] (some 60) (g+1) rfl (qan ((l++List.replicate j (Cel.mk d c))++[(Cel.mk d c)])) (qke (l++List.replicate j (Cel.mk d c)) (Cel.mk d c)) (by kernel_rfl) bU (Rd.all bT) rfl rfl (fun h=>by cases h) (by constructor<;>first|omega|(simp only[maxLen];omega)) ?_);intro bW aF bX bY aG ct a6;have bZ:∀b,aF=some b->w.heap.size<=b:=fun b e=>by
    rcases aG with h|⟨g',h,h'⟩
    ·exact B b (h▸e)
    rw[h]at e;have:=zi e;have:=zzs aD;omega
   have c0:=App.of aG a6;have c1:=c0.apart aE.lt Q;have c2:Ch (· =rv) w bW:=zt aD a6 (fun i hi h=>by have:=B _ h;omega);have c3:=bV.ch a6 (fun h=>by have:=B _ h;have:=hA.lt;omega) (fun h=>by have:=B _ h;have:=hA.dlt;omega);have c4:=aE.ch a6 (fun h=>Q _ h rfl);refine yq 5<|yE (nB (nS ?_));refine q7<|yp 2 [] (.q6 ((j:Int)+1) .z)<|yE (fun a ha=>bQ (j+1,aF,(g+1),bX) _ ⟨by omega,by rw[jL,<-ie];exact bY,by omega,bZ,c1,c4,c3,c2⟩ (by show(k:Int).toNat-(j+1)<(k:Int).toNat-j;omega) a (ha.kp [0,1,6,8,54,55]))
  have ag:j=(k:Int).toNat:=by omega
  subst ag;obtain⟨f',bO,ah⟩:=qm9 (by omega) hf hS;rw[ah]at A;refine qm (eS (qd (qb (nB (fun a ha=>ak (l++List.replicate (k:Int).toNat (Cel.mk d c),V,v,g,y) _ ⟨⟨f',by rw[hJ,iu];omega,A⟩,by rw[hJ,iu];omega,by omega,F,B,S,K⟩ (by show W.toNat-(l++List.replicate (k:Int).toNat (Cel.mk d c)).length<W.toNat-l.length;rw[hJ,iu];omega) a (ha.kp [0,1,6]))))))
 rcases o with _|ob
 ·obtain⟨rfl,rfl⟩:=hO.2.2.2.1 rfl;obtain rfl:=iy C;refine qm (eS (qd (qb (nS ?_))));refine ys<|ysr<|yq 1<|yo (yQ (qpS _) fun c5 ai=>?_);have aH:Ch (· =rv) w c5:=zt T ai eZ;have aI:=a7.ch ai id id;have c6:=hO.ch ai iZ;refine yz 3<|yc (rN (rY (qb6 []))) (fun L=>?_) fun L=>?_
  ·refine yx 2<|q9 (rS (yR2 [nX,xF] .z ?_));have hR:=qiT A (qcR (by first|omega|(simp;omega)));rw[hL]at hR;rw[qmo L]at hR;simp only[ib]at hR;obtain⟨rfl,rfl,rfl⟩:=hR;exact⟨none,0,0,rfl,rfl,Own.nil _ _ _,(fun b e=>by cases e),aI,aH⟩
  refine yk<|yx 3<|q9 (yR2 [nX,.bool true] .z ?_);have hR:=qiT A (qcR (by first|omega|(simp;omega)));rw[hL]at hR;rw[if_pos L]at hR;simp only[ib]at hR;obtain⟨rfl,rfl,rfl⟩:=hR;exact⟨none,_,_,rfl,rfl,c6,G,aI,aH⟩
 refine qm (eS (qd (qb (nS ?_))));refine ys<|ysr<|yq 1<|yo (yQ (qpP ob n cap l _ (qi T hT (fun(h:qe3=rv)=>by have:=g_lt;omega) (fun(h:qc3=rv)=>by have:=g_lt;omega)) (Own.rd hO) hO.lt C (by omega)) fun c7 aj=>?_);have aJ:Ch (· =rv) w c7:=zt T aj eZ;have aK:=a7.ch aj id id;have c8:=hO.ch aj iZ;refine yz 3<|yc (rN (rY (qb6 l))) (fun L=>?_) fun L=>?_
 ·refine yx 2<|q9 (rS (yR2 [nX,xF] .z ?_));have hR:=qiT A (qcR (by first|omega|(simp;omega)));rw[hL]at hR;rw[qmo L]at hR;simp only[ib]at hR;obtain⟨rfl,rfl,rfl⟩:=hR;exact⟨none,0,0,rfl,rfl,Own.nil _ _ _,(fun b e=>by cases e),aK,aJ⟩
 refine yk<|yx 3<|q9 (yR2 [.slice (some ⟨ob,0,none⟩) n cap,.bool true] .z ?_);have hR:=qiT A (qcR (by first|omega|(simp;omega)));rw[hL]at hR;rw[if_pos L]at hR;simp only[ib]at hR;obtain⟨rfl,rfl,rfl⟩:=hR;exact⟨(some ob),_,_,rfl,C,c8,G,aK,aJ⟩
theorem qiU {w:World}{b:Nat}{x:ByteArray}(h:Rd w (some ⟨b,0,none⟩) (qe7 x)){i:Nat}(hi:i<x.size):w.cell? ⟨b,0+(i:Int).toNat*1,none⟩=some (uX (bt x (i:Int))):=by
 rw[il,iN];exact qcg h i _ (bytV_get x hi)
theorem qkg {n:Nat}{p:Nat->Bool}(h:∀i,i<n->p i=true):(List.range n).all p=true:=j3.2 fun i hi=>h i (jz.1 hi)
theorem qgX {n k:Nat}{p:Nat->Bool}(hk:k<n)(h:p k=false):(List.range n).all p=false:=iY.2 fun e=>by
  rw[j3.1 e k (jz.2 hk)]at h;cases h
theorem qmp {lo:Nat}{f:Int->Bool}{m:ByteArray}(h1:¬(m.size:Int)<lo)(h2:¬2<(m.size:Int))(h:∀i:Nat,i<m.size->f (bt m (i:Int))=true):true=qbk lo f m:=by
 unfold qbk;rw[qkg h,j1 (show lo<=m.size by omega),j1 (show m.size<=2 by omega)];rfl
theorem qpT {lo:Nat}{f:Int->Bool}{m:ByteArray}(h1:(m.size:Int)<lo):false=qbk lo f m:=by
 unfold qbk;rw[jr (show¬lo<=m.size by omega)];rfl
theorem qkh {lo:Nat}{f:Int->Bool}{m:ByteArray}(h2:2<(m.size:Int)):false=qbk lo f m:=by
 unfold qbk;rw[jr (show¬m.size<=2 by omega),Bool.and_false];rfl
theorem qki {lo:Nat}{f:Int->Bool}{m:ByteArray}{k:Nat}(hk:k<m.size)(h:f (bt m (k:Int))=false):false=qbk lo f m:=by
 unfold qbk;rw[qgX hk h,Bool.and_false]
theorem textB_t {x:ByteArray}(h:∀i:Nat,i<x.size->decide (32<=bt x (i:Int))=true):decide ((x.size:Int)<=40)=qdB x:=by
 unfold qdB;rw[qkg h,jO];exact decide_eq_decide.2 (by omega)
theorem textB_at {x:ByteArray}{k:Nat}(hk:k<x.size)(h:bt x (k:Int)<32):false=qdB x:=by
 unfold qdB;rw[qgX hk (jr (by omega))];rfl
theorem numsB_t {l:List Int}(h:∀i:Nat,i<l.length->0<=l.getD i 0/\l.getD i 0<=9999):decide ((l.length:Int)<=8)=qgR l:=by
 unfold qgR;have:l.all (fun n=>decide (0<=n)&&decide (n<=9999))=true:=j3.2 fun x hx=>by
  obtain⟨i,hi,rfl⟩:=List.getElem_of_mem hx;have:=h i hi;simp only[List.getD,ig hi,Option.getD_some]at this;simp[this.1,this.2]
 rw[this,jO];exact decide_eq_decide.2 (by omega)
theorem qmq {l:List Int}{k:Nat}(hk:k<l.length)(h:¬(0<=l.getD k 0/\l.getD k 0<=9999)):false=qgR l:=by
 unfold qgR;have:l.all (fun n=>decide (0<=n)&&decide (n<=9999))=false:=iY.2 fun e=>by
  have:=j3.1 e _ (qd6 hk);simp only[ii,ip]at this;exact h this
 rw[this];rfl
theorem qgY {w:World}{b o:Nat}{l:List Int}(h:Rd w (some ⟨b,o,none⟩) (l.map (Value.int .i64))){k:Nat}(hk:k<l.length):w.cell? ⟨b,o+(k:Int).toNat*1,none⟩=some (iX (l.getD k 0)):=by
 rw[il,iN];refine qcg h k _ ?_;rw[iM,ig hk];simp[List.getD,ig hk]
theorem qpU (c:Int)(w:World):CP 139 [uX c].toArray w (RQ (.bool (qk3 c)) w):=by
 refine yA Tryz.func139 rfl<|yx 1<|ysr<|yq 3<|yw [5] (rM 32 c) (fun a=>?_) fun a=>?_
 ·refine yz 7<|q9 (yR1 (.bool (decide (c<48))) ?_);refine⟨?_,Up.ch (zm w)⟩;refine zc ?_;rw[iQ];simp only[qk3,ii,ip,iv,true_iff,ji,iff_true,iff_false,not_and];omega
 refine yz 7<|q9 (yR1 (xF) ?_);refine⟨?_,Up.ch (zm w)⟩;refine zc ?_;rw[iQ];simp only[qk3,ii,ip,iv,true_iff,ji,iff_true,iff_false,not_and];omega
theorem qpV (c:Int)(w:World):CP 140 [uX c].toArray w (RQ (.bool (qbV c)) w):=by
 refine yA Tryz.func140 rfl<|yx 1<|ysr<|yq 1<|yo (yQ (qpU (c) _) fun g f=>?_);have a:=zu (zm w) f iZ;refine yq 3<|yw [5] (rY (qk3 (c))) (fun b=>?_) fun b=>?_
 ·have h:=b;refine yz 11<|q9 (yR1 (.bool true) ?_);refine⟨zc ?_,Up.ch a⟩;unfold qbV
  first|(simp[*];done)|(simp[*];omega)
 have i:=b;refine yq 6<|yw [8] (rM 60 c) (fun d=>?_) fun d=>?_
 ·have j:=d;refine yz 11<|q9 (yR1 (.bool (decide (c<=63))) ?_);refine⟨zc ?_,Up.ch a⟩;unfold qbV
  first|(simp[*];done)|(simp[*];omega)
 have k:=d;refine yz 11<|q9 (yR1 (xF) ?_);refine⟨zc ?_,Up.ch a⟩;unfold qbV
 first|(simp[*];done)|(simp[*];omega)
theorem qnF (p:PS)(pa:Option Addr)(pn pc:Nat)(w:World):CP 138 [.agg (PS.vals p (.slice pa pn pc)).toArray,iX 1,iX 2,.func (.func 139) #[] #[]].toArray w (RQ (.bool (qbk 1 qk3 p.marks)) w):=by
 refine yA Tryz.func138 rfl<|ysr<|yo (yN (PS.vals p (.slice pa pn pc)) 94 fun N O B P d C=>?_);have Q:=zn B (zm w);have b:=zu (zm w) C iZ;refine yz 2<|ys<|ysr<|yp 6 [] (.l (d.c 5) .z)<|yw [16] (rL ((p.marks).size:Int) 1) (fun f=>?_) fun f=>?_
 ·refine yz 12<|yct<|yx 1<|q9 (rS (yR1 (xF) ?_));exact⟨congrArg Ending.returned (congrArg Value.bool (qpT f)),Up.ch b⟩
 refine yp 12 [] (.l (d.c 5) .z)<|ye<|yc (rL 2 ((p.marks).size:Int)) (fun g=>?_) fun g=>?_
 ·refine yx 1<|q9 (rS (yR1 (xF) ?_));exact⟨congrArg Ending.returned (congrArg Value.bool (qkh g)),Up.ch b⟩
 refine yk<|ys<|ysr<|yp 2 [] (.l (d.c 5) .z)<|yo (qgv p.marks (some 25) (by kernel_rfl) ?_);intro D j s E R F G;have S:=zn E b;have H:=zu b G iZ;refine yz 5<|qa<|qV [3,25,26,27] (f':=[(3,.func (.func 139) #[] #[]),(25,.slice (some ⟨j,0,none⟩) (p.marks).size s),(26,iX (((p.marks).size:Nat):Int)),(27,iX 0)])<|qw (σ:=Nat) (fun k=>[(3,.func (.func 139) #[] #[]),(25,.slice (some ⟨j,0,none⟩) (p.marks).size s),(26,iX (((p.marks).size:Nat):Int)),(27,iX (k:Int))]) (fun k u=>k<=(p.marks).size/\(∀i:Nat,i<k->qk3 (bt p.marks (i:Int))=true)/\Rd u (some ⟨j,0,none⟩) (qe7 p.marks)/\Ch (fun _=>False) D u) (fun k=>(p.marks).size-k) 0 rfl ?_ ?_
 ·exact⟨ir _,fun i hi=>absurd hi (j0 i),F,Ch.refl _ _⟩
 intro k T I U J;obtain⟨hk,t,x,y⟩:=I;have A:=zu H y iZ;refine yx 1<|ys<|yc (rL (k:Int) (((p.marks).size:Nat):Int)) (fun m=>?_) fun m=>?_
 ·have V:=m;refine yk<|ys<|qa<|ysr<|yp 3 [] (.i (k:Int) ((p.marks).size) (.l (v:=uX (bt p.marks (k:Int))) (qiU x (i:=k) (by omega)) .z))<|ye<|ysr<|yq 2<|yo (yQT (qpU ((bt p.marks (k:Int))) _) fun W o=>?_);have K:=zu A o iZ;have L:=zt y o eZ;have M:=Ch.rd o x id;refine yz 4<|yc (rN (rY (qk3 ((bt p.marks (k:Int)))))) (fun q=>?_) fun q=>?_
  ·have r:qk3 (bt p.marks (k:Int))=false:=q;refine yx 1<|q9 (rB (rS (qy (rB (rS (yR1 (xF) ?_))))));exact⟨congrArg Ending.returned (congrArg Value.bool (qki (by omega) r)),Up.ch K⟩
  have r:qk3 (bt p.marks (k:Int))=true:=q;refine qo (nB (nS ?_));refine q7<|yp 2 [] (.q6 ((k:Int)+1) .z)<|yE (fun a ha=>J (k+1) _ ⟨by omega,fun i hi=>(iL i k).elim (t i) (fun h=>by rw[show i=k by omega];exact r),M,L⟩ (by show(p.marks).size-(k+1)<(p.marks).size-k;omega) a (ha.kp [3,25,26,27]))
 have X:=m;refine qm (eS (qd (qb (nS ?_))));refine yx 1<|q9 (yR1 (.bool true) ?_);exact⟨congrArg Ending.returned (congrArg Value.bool (qmp f g (fun i hi=>t i (by omega)))),Up.ch A⟩
theorem qgZ (p:PS)(pa:Option Addr)(pn pc:Nat)(w:World):CP 138 [.agg (PS.vals p (.slice pa pn pc)).toArray,iX 0,iX 2,.func (.func 140) #[] #[]].toArray w (RQ (.bool (qbk 0 qbV p.marks)) w):=by
 refine yA Tryz.func138 rfl<|ysr<|yo (yN (PS.vals p (.slice pa pn pc)) 94 fun N O B P b C=>?_);have Q:=zn B (zm w);have d:=zu (zm w) C iZ;refine yz 2<|ys<|ysr<|yp 6 [] (.l (b.c 5) .z)<|yw [16] (rL ((p.marks).size:Int) 0) (fun r=>?_) fun r=>?_
 ·exfalso;omega
 refine yp 12 [] (.l (b.c 5) .z)<|ye<|yc (rL 2 ((p.marks).size:Int)) (fun f=>?_) fun f=>?_
 ·refine yx 1<|q9 (rS (yR1 (xF) ?_));exact⟨congrArg Ending.returned (congrArg Value.bool (qkh f)),Up.ch d⟩
 refine yk<|ys<|ysr<|yp 2 [] (.l (b.c 5) .z)<|yo (qgv p.marks (some 25) (by kernel_rfl) ?_);intro D g s E R F G;have S:=zn E d;have H:=zu d G iZ;refine yz 5<|qa<|qV [3,25,26,27] (f':=[(3,.func (.func 140) #[] #[]),(25,.slice (some ⟨g,0,none⟩) (p.marks).size s),(26,iX (((p.marks).size:Nat):Int)),(27,iX 0)])<|qw (σ:=Nat) (fun k=>[(3,.func (.func 140) #[] #[]),(25,.slice (some ⟨g,0,none⟩) (p.marks).size s),(26,iX (((p.marks).size:Nat):Int)),(27,iX (k:Int))]) (fun k u=>k<=(p.marks).size/\(∀i:Nat,i<k->qbV (bt p.marks (i:Int))=true)/\Rd u (some ⟨g,0,none⟩) (qe7 p.marks)/\Ch (fun _=>False) D u) (fun k=>(p.marks).size-k) 0 rfl ?_ ?_
 ·exact⟨ir _,fun i hi=>absurd hi (j0 i),F,Ch.refl _ _⟩
 intro k T I U J;obtain⟨hk,t,x,y⟩:=I;have A:=zu H y iZ;refine yx 1<|ys<|yc (rL (k:Int) (((p.marks).size:Nat):Int)) (fun j=>?_) fun j=>?_
 ·have V:=j;refine yk<|ys<|qa<|ysr<|yp 3 [] (.i (k:Int) ((p.marks).size) (.l (v:=uX (bt p.marks (k:Int))) (qiU x (i:=k) (by omega)) .z))<|ye<|ysr<|yq 2<|yo (yQT (qpV ((bt p.marks (k:Int))) _) fun W m=>?_);have K:=zu A m iZ;have L:=zt y m eZ;have M:=Ch.rd m x id;refine yz 4<|yc (rN (rY (qbV ((bt p.marks (k:Int)))))) (fun o=>?_) fun o=>?_
  ·have q:qbV (bt p.marks (k:Int))=false:=o;refine yx 1<|q9 (rB (rS (qy (rB (rS (yR1 (xF) ?_))))));exact⟨congrArg Ending.returned (congrArg Value.bool (qki (by omega) q)),Up.ch K⟩
  have q:qbV (bt p.marks (k:Int))=true:=o;refine qo (nB (nS ?_));refine q7<|yp 2 [] (.q6 ((k:Int)+1) .z)<|yE (fun a ha=>J (k+1) _ ⟨by omega,fun i hi=>(iL i k).elim (t i) (fun h=>by rw[show i=k by omega];exact q),M,L⟩ (by show(p.marks).size-(k+1)<(p.marks).size-k;omega) a (ha.kp [3,25,26,27]))
 have X:=j;refine qm (eS (qd (qb (nS ?_))));refine yx 1<|q9 (yR1 (.bool true) ?_);exact⟨congrArg Ending.returned (congrArg Value.bool (qmp r f (fun i hi=>t i (by omega)))),Up.ch A⟩
theorem qmr (p:PS)(pa:Option Addr)(pn pc:Nat)(w:World)(htz:p.text.size<=1000):CP 142 [.agg (PS.vals p (.slice pa pn pc)).toArray].toArray w (RQ (.bool (qdB p.text)) w):=by
 refine yA Tryz.func142 rfl<|ysr<|yo (yN (PS.vals p (.slice pa pn pc)) 94 fun L j y M m A=>?_);have N:=zn y (zm w);have o:=zu (zm w) A iZ;refine yz 2<|ys<|ysr<|yp 2 [] (.l (m.c 7) .z)<|yo (qgv p.text (some 7) (by kernel_rfl) ?_);intro B b q C O D r;have P:=zn C o;have E:=zu o r iZ;have F:=m.ch r id;refine yz 5<|qa<|qV [1,7,8,9] (f':=[(1,pX j),(7,.slice (some ⟨b,0,none⟩) (p.text).size q),(8,iX (((p.text).size:Nat):Int)),(9,iX 0)])<|qw (σ:=Nat) (fun k=>[(1,pX j),(7,.slice (some ⟨b,0,none⟩) (p.text).size q),(8,iX (((p.text).size:Nat):Int)),(9,iX (k:Int))]) (fun k u=>k<=(p.text).size/\(∀i:Nat,i<k->(fun c=>decide (32<=c)) (bt p.text (i:Int))=true)/\Rd u (some ⟨b,0,none⟩) (qe7 p.text)/\Ch (fun _=>False) B u) (fun k=>(p.text).size-k) 0 rfl ?_ ?_
 ·exact⟨ir _,fun i hi=>absurd hi (j0 i),D,Ch.refl _ _⟩
 intro k Q G R H;obtain⟨hk,s,t,d⟩:=G;have x:=zu E d iZ;have I:=F.ch d id;refine yx 1<|ys<|yc (rL (k:Int) (((p.text).size:Nat):Int)) (fun f=>?_) fun f=>?_
 ·have S:=f;refine yk<|ys<|qa<|ysr<|yp 3 [] (.i (k:Int) ((p.text).size) (.l (v:=uX (bt p.text (k:Int))) (qiU t (i:=k) (by omega)) .z))<|ye<|yx 2<|yc (rL (bt p.text (k:Int)) 32) (fun g=>?_) fun g=>?_
  ·have J:=g;refine yx 1<|q9 (rB (rS (qy (rB (rS (yR1 (xF) ?_))))));exact⟨congrArg Ending.returned (congrArg Value.bool (textB_at (by omega) J)),Up.ch x⟩
  have K:decide (32<=bt p.text (k:Int))=true:=j1 (by have:=g;omega);refine qo (nB (nS ?_));refine q7<|yp 2 [] (.q6 ((k:Int)+1) .z)<|yE (fun a ha=>H (k+1) _ ⟨by omega,fun i hi=>(iL i k).elim (s i) (fun h=>by rw[show i=k by omega];exact K),t,d⟩ (by show(p.text).size-(k+1)<(p.text).size-k;omega) a (ha.kp [1,7,8,9]))
 have T:=f;refine qm (eS (qd (qb (nS ?_))));refine ysr<|yp 5 [] (.l (I.c 7) .z)<|ye<|q9 (yR1 (.bool (decide (((p.text).size:Int)<=40))) ?_);exact⟨congrArg Ending.returned (congrArg Value.bool (textB_t (fun i hi=>s i (by omega)))),Up.ch x⟩
theorem qms (p:PS)(pa:Option Addr)(pn pc:Nat)(w:World)(hr:Rd w pa (p.params.map (Value.int .i64)))(hl:p.params.length=pn)(hz:pn=0\/ ∃b o,pa=some ⟨b,o,none⟩)(hn:pn<=8):CP 141 [.agg (PS.vals p (.slice pa pn pc)).toArray].toArray w (RQ (.bool (qgR p.params)) w):=by
 refine yA Tryz.func141 rfl<|ysr<|yo (yN (PS.vals p (.slice pa pn pc)) 94 fun v q x F r s=>?_);have G:=zn x (zm w);have y:=zu (zm w) s iZ;have A:=Rd.ch hr s iZ;refine yz 2<|ys<|ysr<|yp 4 [] (.l (r.c 6) .z)<|ye<|qa<|qV [1,6,7,8] (f':=[(1,pX q),(6,.slice pa pn pc),(7,iX (pn:Int)),(8,iX 0)])<|qw (σ:=Nat) (fun k=>[(1,pX q),(6,.slice pa pn pc),(7,iX (pn:Int)),(8,iX (k:Int))]) (fun k u=>k<=pn/\(∀i:Nat,i<k->0<=p.params.getD i 0/\p.params.getD i 0<=9999)/\Ch (fun _=>False) v u) (fun k=>pn-k) 0 rfl ?_ ?_
 ·exact⟨ir _,fun i hi=>absurd hi (j0 i),Ch.refl _ _⟩
 intro k H B I C;obtain⟨hk,t,d⟩:=B;have f:=zu y d iZ;have D:=Rd.ch A d iZ;have E:=r.ch d id;refine yx 1<|ys<|yc (rL (k:Int) (pn:Int)) (fun g=>?_) fun g=>?_
 ·obtain⟨pb,po,rfl⟩:=hz.resolve_left (by omega);have J:=g;refine yk<|ys<|qa<|ysr<|yp 3 [] (.i (k:Int) (pn) (.l (o:=(po+((k:Int)).toNat*1)) (qgY D (by omega)) .z))<|ye<|ysr<|yq 3<|yw [14] (rL (p.params.getD k 0) 0) (fun j=>?_) fun j=>?_
  ·have K:=j;refine yz 6<|yct<|yx 1<|q9 (rB (rS (qy (rB (rS (yR1 (xF) ?_))))));exact⟨congrArg Ending.returned (congrArg Value.bool (qmq (l:=p.params) (k:=k) (by omega) (by omega))),Up.ch f⟩
  have L:=j;refine yz 6<|yc (rL 9999 (p.params.getD k 0)) (fun m=>?_) fun m=>?_
  ·have M:=m;refine yx 1<|q9 (rB (rS (qy (rB (rS (yR1 (xF) ?_))))));exact⟨congrArg Ending.returned (congrArg Value.bool (qmq (l:=p.params) (k:=k) (by omega) (by omega))),Up.ch f⟩
  have N:=m;refine qo (nB (nS ?_));refine q7<|yp 2 [] (.q6 ((k:Int)+1) .z)<|yE (fun a ha=>C (k+1) _ ⟨by omega,fun i hi=>(iL i k).elim (t i) (fun h=>by rw[show i=k by omega];omega),d⟩ (by show pn-(k+1)<pn-k;omega) a (ha.kp [1,6,7,8]))
 have O:=g;refine qm (eS (qd (qb (nS ?_))));refine ysr<|yp 5 [] (.l (E.c 6) .z)<|ye<|q9 (yR1 (.bool (decide ((pn:Int)<=8))) ?_);exact⟨congrArg Ending.returned (congrArg Value.bool (by rw[<-numsB_t (fun i hi=>t i (by omega)),hl])),Up.ch f⟩
theorem qpW (x0:Int)(x1:Int)(x2:Int)(w:World)(hU:qcD w)(hB:∀x∈([x0,x1,x2]:List Int),0<=x/\x<=255):CP 137 [.agg #[uX x0,uX x1,uX x2,iX 0]].toArray w (RQ (.bool (utB ⟨x0,x1,x2,0⟩)) w):=by
 refine yA Tryz.func137 rfl<|ysr<|yo (yN [uX x0,uX x1,uX x2,iX 0] 92 fun u v m y a n=>?_);have A:=zn m (zm w);have b:=zu (zm w) n iZ;refine yz 2<|ys<|ysr<|yp 8 [] (.l (a.c 3) (.l (a.c 3) .z))<|ye<|ycf<|yk<|ys<|ysr<|yp 6 [3] (.l (a.c 3) (.j 0 (3) (.p (q:=0<3) (by omega) .z)))<|ye<|qa<|yU 4 (yU1 ?_);refine yx 1<|ys<|yct<|yk<|ys<|qa<|ysr<|yp 3 [] (.i 0 (3) (.l (a.c 0) .z))<|ye<|yx 2<|yc (rI x0 0) (fun d=>?_) fun d=>?_
 ·have o:=d;refine yx 1<|q9 (rB (rS (qy (rB (rS (yR1 (xF) ?_))))));refine⟨zc ?_,Up.ch b⟩;unfold utB US.pend;simp[o]
 have f:=d;refine qo (nB (nS ?_));refine q7<|yp 2 [] (.q6 1 .z)<|yE (nU (yU1 ?_));refine yx 1<|ys<|yct<|yk<|ys<|qa<|ysr<|yp 3 [] (.i 1 (3) (.l (a.c 1) .z))<|ye<|yx 2<|yc (rI x1 0) (fun g=>?_) fun g=>?_
 ·have r:=g;refine yx 1<|q9 (rB (rS (qy (rB (rS (yR1 (xF) ?_))))));refine⟨zc ?_,Up.ch b⟩;unfold utB US.pend;simp[f,r]
 have k:=g;refine qo (nB (nS ?_));refine q7<|yp 2 [] (.q6 2 .z)<|yE (nU (yU1 ?_));refine yx 1<|ys<|yct<|yk<|ys<|qa<|ysr<|yp 3 [] (.i 2 (3) (.l (a.c 2) .z))<|ye<|yx 2<|yc (rI x2 0) (fun h=>?_) fun h=>?_
 ·have s:=h;refine yx 1<|q9 (rB (rS (qy (rB (rS (yR1 (xF) ?_))))));refine⟨zc ?_,Up.ch b⟩;unfold utB US.pend;simp[f,k,s]
 have t:=h;refine qo (nB (nS ?_));refine q7<|yp 2 [] (.q6 3 .z)<|yE (nU (yU1 ?_));refine yx 1<|ys<|ycf<|qm (eS (qd (qb (nS ?_))));refine ysr<|yp 12 [] (.l (a.c 3) .z)<|ye<|q9 (yR1 (.bool true) ?_);refine⟨zc ?_,Up.ch b⟩;unfold utB US.pend;simp[f,k,t]
theorem qpX (x0:Int)(x1:Int)(x2:Int)(w:World)(hU:qcD w)(hB:∀x∈([x0,x1,x2]:List Int),0<=x/\x<=255):CP 137 [.agg #[uX x0,uX x1,uX x2,iX 1]].toArray w (RQ (.bool (utB ⟨x0,x1,x2,1⟩)) w):=by
 refine yA Tryz.func137 rfl<|ysr<|yo (yN [uX x0,uX x1,uX x2,iX 1] 92 fun y k m A a g=>?_);have B:=zn m (zm w);have b:=zu (zm w) g iZ;have n:=qaf g hU id id;refine yz 2<|ys<|ysr<|yp 8 [] (.l (a.c 3) (.l (a.c 3) .z))<|ye<|ycf<|yk<|ys<|ysr<|yp 6 [3] (.l (a.c 3) (.j 1 (3) (.p (q:=1<3) (by omega) .z)))<|ye<|qa<|yU 3 (yU1 ?_);refine yx 1<|ys<|yct<|yk<|ys<|qa<|ysr<|yp 3 [] (.i 0 (2) (.l (a.c 1) .z))<|ye<|yx 2<|yc (rI x1 0) (fun d=>?_) fun d=>?_
 ·have o:=d;refine yx 1<|q9 (rB (rS (qy (rB (rS (yR1 (xF) ?_))))));refine⟨zc ?_,Up.ch b⟩;unfold utB US.pend;simp[o]
 have h:=d;refine qo (nB (nS ?_));refine q7<|yp 2 [] (.q6 1 .z)<|yE (nU (yU1 ?_));refine yx 1<|ys<|yct<|yk<|ys<|qa<|ysr<|yp 3 [] (.i 1 (2) (.l (a.c 2) .z))<|ye<|yx 2<|yc (rI x2 0) (fun f=>?_) fun f=>?_
 ·have s:=f;refine yx 1<|q9 (rB (rS (qy (rB (rS (yR1 (xF) ?_))))));refine⟨zc ?_,Up.ch b⟩;unfold utB US.pend;simp[h,s]
 have t:=f;refine qo (nB (nS ?_));refine q7<|yp 2 [] (.q6 2 .z)<|yE (nU (yU1 ?_));refine yx 1<|ys<|ycf<|qm (eS (qd (qb (nS ?_))));refine ysr<|yp 8 [] (.l (a.c 3) (.l (a.c 3) (.j 1 (3) .z)))<|yo (yQ (qcw k 0 3 [x0] n (Rd.pre (ys:=[x0].map (Value.int .u8)) (r:=[uX x1,uX x2,iX 1]) a) a.lt (fun x hx=>hB x (by simp only[j9,jf,or_false]at hx⊢;first|exact hx|(rcases hx with hx|hx;exact .inl hx;exact .inr (.inl hx))|exact .inl hx)) (qc2 rfl)) fun C u=>?_);have v:=zu b u iZ;refine yz 12<|q9 (yR1 (.bool (!(qbT [x0]))) ?_);refine⟨zc ?_,Up.ch v⟩;unfold utB US.pend;simp[h,t]
theorem qpY (x0:Int)(x1:Int)(x2:Int)(w:World)(hU:qcD w)(hB:∀x∈([x0,x1,x2]:List Int),0<=x/\x<=255):CP 137 [.agg #[uX x0,uX x1,uX x2,iX 2]].toArray w (RQ (.bool (utB ⟨x0,x1,x2,2⟩)) w):=by
 refine yA Tryz.func137 rfl<|ysr<|yo (yN [uX x0,uX x1,uX x2,iX 2] 92 fun t g h u a d=>?_);have v:=zn h (zm w);have f:=zu (zm w) d iZ;have k:=qaf d hU id id;refine yz 2<|ys<|ysr<|yp 8 [] (.l (a.c 3) (.l (a.c 3) .z))<|ye<|ycf<|yk<|ys<|ysr<|yp 6 [3] (.l (a.c 3) (.j 2 (3) (.p (q:=2<3) (by omega) .z)))<|ye<|qa<|yU 2 (yU1 ?_);refine yx 1<|ys<|yct<|yk<|ys<|qa<|ysr<|yp 3 [] (.i 0 (1) (.l (a.c 2) .z))<|ye<|yx 2<|yc (rI x2 0) (fun b=>?_) fun b=>?_
 ·have m:=b;refine yx 1<|q9 (rB (rS (qy (rB (rS (yR1 (xF) ?_))))));refine⟨zc ?_,Up.ch f⟩;unfold utB US.pend;simp[m]
 have n:=b;refine qo (nB (nS ?_));refine q7<|yp 2 [] (.q6 1 .z)<|yE (nU (yU1 ?_));refine yx 1<|ys<|ycf<|qm (eS (qd (qb (nS ?_))));refine ysr<|yp 8 [] (.l (a.c 3) (.l (a.c 3) (.j 2 (3) .z)))<|yo (yQ (qcw g 0 3 [x0,x1] k (Rd.pre (ys:=[x0,x1].map (Value.int .u8)) (r:=[uX x2,iX 2]) a) a.lt (fun x hx=>hB x (by simp only[j9,jf,or_false]at hx⊢;first|exact hx|(rcases hx with hx|hx;exact .inl hx;exact .inr (.inl hx))|exact .inl hx)) (qc2 rfl)) fun y o=>?_);have s:=zu f o iZ;refine yz 12<|q9 (yR1 (.bool (!(qbT [x0,x1]))) ?_);refine⟨zc ?_,Up.ch s⟩;unfold utB US.pend;simp[n]
theorem qpZ (x0:Int)(x1:Int)(x2:Int)(w:World)(hU:qcD w)(hB:∀x∈([x0,x1,x2]:List Int),0<=x/\x<=255):CP 137 [.agg #[uX x0,uX x1,uX x2,iX 3]].toArray w (RQ (.bool (utB ⟨x0,x1,x2,3⟩)) w):=by
 refine yA Tryz.func137 rfl<|ysr<|yo (yN [uX x0,uX x1,uX x2,iX 3] 92 fun m d f n a b=>?_);have o:=zn f (zm w);have g:=zu (zm w) b iZ;have h:=qaf b hU id id;refine yz 2<|ys<|ysr<|yp 8 [] (.l (a.c 3) (.l (a.c 3) .z))<|ye<|ycf<|yk<|ys<|ysr<|yp 6 [] (.l (a.c 3) (.j 3 (3) .z))<|ye<|qa<|yU 1 (yU1 ?_);refine yx 1<|ys<|ycf<|qm (eS (qd (qb (nS ?_))));refine ysr<|yp 8 [] (.l (a.c 3) (.l (a.c 3) (.j 3 (3) .z)))<|yo (yQ (qcw d 0 3 [x0,x1,x2] h (Rd.pre (ys:=[x0,x1,x2].map (Value.int .u8)) (r:=[iX 3]) a) a.lt (fun x hx=>hB x (by simp only[j9,jf,or_false]at hx⊢;first|exact hx|(rcases hx with hx|hx;exact .inl hx;exact .inr (.inl hx))|exact .inl hx)) (qc2 rfl)) fun p i=>?_);have k:=zu g i iZ;refine yz 12<|q9 (yR1 (.bool (!(qbT [x0,x1,x2]))) ?_);refine⟨zc ?_,Up.ch k⟩;unfold utB US.pend;simp[true_and]
theorem qq0 {u:US}(h:u.n<0\/3<u.n):false=utB u:=by
 unfold utB;rcases h with h|h
 ·rw[jr (show¬0<=u.n by omega)];rfl
 rw[jr (show¬u.n<=3 by omega),Bool.and_false];rfl
theorem qq1 (u:US)(w:World)(hn:u.n<0\/3<u.n):CP 137 [.agg #[uX u.b0,uX u.b1,uX u.b2,iX u.n]].toArray w (RQ (.bool (utB u)) w):=by
 refine yA Tryz.func137 rfl<|ysr<|yo (yN [uX u.b0,uX u.b1,uX u.b2,iX u.n] 92 fun i j g k d h=>?_);have m:=zn g (zm w);have f:=zu (zm w) h iZ;refine yz 2<|ys<|ysr<|yp 4 [] (.l (d.c 3) .z)<|yw [8] (rL u.n 0) (fun a=>?_) fun a=>?_
 ·have o:=a;refine yz 8<|yct<|yx 1<|q9 (rS (yR1 (xF) ?_));exact⟨congrArg Ending.returned (congrArg Value.bool (qq0 hn)),Up.ch f⟩
 have p:=a;refine yp 8 [] (.l (d.c 3) .z)<|ye<|yc (rL 3 u.n) (fun b=>?_) fun b=>?_
 ·have q:=b;refine yx 1<|q9 (rS (yR1 (xF) ?_));exact⟨congrArg Ending.returned (congrArg Value.bool (qq0 hn)),Up.ch f⟩
 have r:=b;exfalso;omega
theorem urightE (u:US)(w:World)(hU:qcD w)(ho:u.ok):CP 137 [.agg #[uX u.b0,uX u.b1,uX u.b2,iX u.n]].toArray w (RQ (.bool (utB u)) w):=by
 obtain⟨a,b,c,n⟩:=u;obtain⟨d,f,g,h⟩:=ho;dsimp only at*;have hB:∀x∈([a,b,c]:List Int),0<=x/\x<=255:=fun x hx=>by
  simp only[j9,jf,or_false]at hx;rcases hx with rfl|rfl|rfl<;>assumption
 by_cases hn:n<0\/3<n
 ·exact qq1 ⟨a,b,c,n⟩ w hn
 have hn:n=0\/n=1\/n=2\/n=3:=by omega
 rcases hn with rfl|rfl|rfl|rfl
 ·exact qpW a b c w hU hB
 ·exact qpX a b c w hU hB
 ·exact qpY a b c w hU hB
 exact qpZ a b c w hU hB
theorem unm_t {p:PS}{pn:Nat}(h:zb p.marks=true)(hl:p.params.length=pn):qgQ p=((pn:Int)==0):=by
 unfold qgQ;rw[h,hl,jO,iQ,iU,iU];omega
theorem pr_neg {p:PS}(h1:p.state=7\/p.within=0)(h2:p.state=0\/qcS p.utf=true):¬((p.state≠7/\p.within≠0)\/(p.state≠0/\qcS p.utf=false)):=fun h=>h.elim (fun a=>h1.elim a.1 a.2) fun a=>h2.elim a.1 fun b=>by rw[b]at a;cases a.2
theorem qgg {p:PS}(h:¬((p.state≠7/\p.within≠0)\/(p.state≠0/\qcS p.utf=false))):qG p=(if p.state=0 then utB p.utf&&qgQ p&&zb p.text
  else if p.state=1 then qgQ p&&zb p.text
  else if p.state=2 then qbk 1 qk3 p.marks&&p.params.length==0&&zb p.text
  else if p.state=3\/p.state=4 then qbk 0 qbV p.marks&&qgR p.params&&zb p.text
  else if p.state=7 then(if p.within≠5/\p.within≠6 then false else qgQ p&&qdB p.text)
  else if p.state=5\/p.state=6 then qgQ p&&qdB p.text
  else false):=if_neg h
theorem unm_f {p:PS}(h:zb p.marks=false):qgQ p=false:=by unfold qgQ;rw[h];rfl
theorem rightE (p:PS)(pa:Option Addr)(pn pc:Nat)(w:World)(hU:qcD w)(ho:p.utf.ok)(hr:Rd w pa (p.params.map (Value.int .i64)))(hl:p.params.length=pn)(hz:pn=0\/ ∃b o,pa=some ⟨b,o,none⟩)(hn:pn<=8)(htz:p.text.size<=1000):CP 117 [.agg (PS.vals p (.slice pa pn pc)).toArray].toArray w (RQ (.bool (qG p)) w):=by
 have h:=Sep.nil w;refine yA Tryz.func117 rfl<|ysr<|yo (zN (PS.vals p (.slice pa pn pc)) 94 h fun u f h=>?_);refine yz 2<|ysr<|yp 5 [] (.a (h.cs 0 1 4) .z)<|ye<|qb4 ([(1,pX f),(3,.bool ((((p.utf.b0:Int)==0)&&(((p.utf.b1:Int)==0)&&(((p.utf.b2:Int)==0)&&true)))&&(((p.utf.n:Int)==0)&&true))),(4,.bool (qgQ p))]) (fun u=>Sep w (fun _=>False) u [qbB f (PS.vals p (.slice pa pn pc)) 94]) (fun a0 U=>?_) (fun u h=>?_)
 ·refine q7<|yp 4 [] (.l (h.c 0 5) .z)<|yw [12] (rY ((p.marks).toList==(ByteArray.empty).toList)) (fun g=>?_) fun g=>?_
  ·have V:zb p.marks=true:=g;refine yp 10 [] (.l (h.c 0 6) .z)<|yE (fun a ha=>U _ h a (by rw[unm_t V hl];exact ha.kp [1,3,4]))
  have W:zb p.marks=false:=g;refine yq 10<|yE (fun a ha=>U _ h a (by rw[unm_f W];exact ha.kp [1,3,4]))
 refine qb4 ([(1,pX f),(4,.bool (qgQ p))]) (fun u=>Sep w (fun _=>False) u [qbB f (PS.vals p (.slice pa pn pc)) 94]/\(p.state=7\/p.within=0)/\(p.state=0\/qcS p.utf=true)) (fun a1 i=>?_) (fun u h=>?_)
 ·refine ysr<|yp 4 [] (.l (h.c 0 0) .z)<|yw [21] (rI p.state 7) (fun j=>?_) fun j=>?_
  ·have a2:=j;refine yp 9 [] (.l (h.c 0 8) .z)<|yw [26] (rI p.within 0) (fun k=>?_) fun k=>?_
   ·have a3:=k;refine yz 17<|yct<|yx 1<|q9 (qy (yR1 (xF) ?_));refine⟨zc ?_,h.ch⟩;simp[qG,zb, *]
   have a4:=k;refine yp 13 [] (.l (h.c 0 0) .z)<|yw [30] (rI p.state 0) (fun m=>?_) fun m=>?_
   ·have a5:=m;refine yz 17<|yc (rN (rY ((((p.utf.b0:Int)==0)&&(((p.utf.b1:Int)==0)&&(((p.utf.b2:Int)==0)&&true)))&&(((p.utf.n:Int)==0)&&true)))) (fun q=>?_) fun q=>?_
    ·have a6:qcS p.utf=false:=by rw[<-q];unfold qcS;simp[Bool.and_assoc]
     refine yx 1<|q9 (qy (yR1 (xF) ?_));refine⟨zc ?_,h.ch⟩;simp[qG,zb, *]
    have a7:qcS p.utf=true:=by rw[<-q];unfold qcS;simp[Bool.and_assoc]
    refine qo (fun a ha=>i _ ⟨h,by first|exact .inl (by assumption)|exact .inr (by assumption),by first|exact .inl (by assumption)|exact .inr (by assumption)⟩ a (ha.kp [1,4]))
   have a8:=m;refine yz 17<|ycf<|qo (fun a ha=>i _ ⟨h,by first|exact .inl (by assumption)|exact .inr (by assumption),by first|exact .inl (by assumption)|exact .inr (by assumption)⟩ a (ha.kp [1,4]))
  have a9:=j;refine yp 13 [] (.l (h.c 0 0) .z)<|yw [30] (rI p.state 0) (fun r=>?_) fun r=>?_
  ·have aa:=r;refine yz 17<|yc (rN (rY ((((p.utf.b0:Int)==0)&&(((p.utf.b1:Int)==0)&&(((p.utf.b2:Int)==0)&&true)))&&(((p.utf.n:Int)==0)&&true)))) (fun s=>?_) fun s=>?_
   ·have ab:qcS p.utf=false:=by rw[<-s];unfold qcS;simp[Bool.and_assoc]
    refine yx 1<|q9 (qy (yR1 (xF) ?_));refine⟨zc ?_,h.ch⟩;simp[qG,zb, *]
   have ac:qcS p.utf=true:=by rw[<-s];unfold qcS;simp[Bool.and_assoc]
   refine qo (fun a ha=>i _ ⟨h,by first|exact .inl (by assumption)|exact .inr (by assumption),by first|exact .inl (by assumption)|exact .inr (by assumption)⟩ a (ha.kp [1,4]))
  have ad:=r;exfalso;omega
 obtain⟨h,X,Y⟩:=h;have d:=pr_neg X Y;refine ys<|ysr<|yp 2 [] (.l (h.c 0 0) .z)<|ye<|qa<|ys<|qa<|ys<|qa<|ys<|qa<|ys<|qa<|ys<|qa<|ys<|qa<|ys<|ys<|yx 2<|yc (rE p.state 0) (fun t=>?_) fun t=>?_
 ·have ae:=t;refine qm (eS (eS (qb (nS ?_))));refine ys<|ysr<|yp 2 [] (.a (h.cs 0 1 4) .z)<|yo (yQ (h.look (urightE p.utf _ (qaf h.ch hU id id) ho)) fun u h=>?_);refine yq 4<|yw [54] (rY (utB p.utf)) (fun v=>?_) fun v=>?_
  ·have af:=v;refine yq 7<|yw [57] (rY (qgQ p)) (fun x=>?_) fun x=>?_
   ·have ag:=x;refine yp 12 [] (.l (h.c 0 7) .z)<|ye<|q9 (rS (rB (rS (rB (rS (rB (rS (rB (rS (rB (rS (rB (rS (yR1 (.bool ((p.text).toList==(ByteArray.empty).toList)) ?_))))))))))))));refine⟨zc ?_,h.ch⟩;rw[qgg d];simp[qG,zb, *]<;>omega
   have ah:=x;refine yz 12<|q9 (rS (rB (rS (rB (rS (rB (rS (rB (rS (rB (rS (rB (rS (yR1 (xF) ?_))))))))))))));refine⟨zc ?_,h.ch⟩;rw[qgg d];simp[qG,zb, *]<;>omega
  have ai:=v;refine yz 12<|q9 (rS (rB (rS (rB (rS (rB (rS (rB (rS (rB (rS (rB (rS (yR1 (xF) ?_))))))))))))));refine⟨zc ?_,h.ch⟩;rw[qgg d];simp[qG,zb, *]<;>omega
 have aj:=t;refine yk<|ys<|yx 2<|yc (rE p.state 1) (fun y=>?_) fun y=>?_
 ·have ak:=y;refine qm (eS (eS (eB (eS (qb (nS ?_))))));refine ys<|ysr<|yq 2<|yw [63] (rY (qgQ p)) (fun A=>?_) fun A=>?_
  ·have al:=A;refine yp 7 [] (.l (h.c 0 7) .z)<|ye<|q9 (rS (rB (rS (rB (rS (rB (rS (rB (rS (rB (rS (yR1 (.bool ((p.text).toList==(ByteArray.empty).toList)) ?_))))))))))));refine⟨zc ?_,h.ch⟩;rw[qgg d];simp[qG,zb, *]<;>omega
  have am:=A;refine yz 7<|q9 (rS (rB (rS (rB (rS (rB (rS (rB (rS (rB (rS (yR1 (xF) ?_))))))))))));refine⟨zc ?_,h.ch⟩;rw[qgg d];simp[qG,zb, *]<;>omega
 have an:=y;refine yk<|ys<|yx 2<|yc (rE p.state 2) (fun B=>?_) fun B=>?_
 ·have ao:=B;refine qm (eS (eS (eB (eS (eB (eS (qb (nS ?_))))))));refine ys<|ysr<|yp 1 [] (.a (h.cs 0 0 9) .z)<|yo (yQ (h.look (qnF p pa pn pc _)) fun u h=>?_);refine yq 3<|yw [70] (rY (qbk 1 qk3 p.marks)) (fun C=>?_) fun C=>?_
  ·have ap:=C;refine yp 9 [] (.l (h.c 0 6) .z)<|yw [76] (rE (pn:Int) 0) (fun Z=>?_) fun Z=>?_
   ·have aq:(p.params.length==0)=true:=by rw[hl];first|(rw[iU];omega)|(rw[jt];omega)
    refine yp 14 [] (.l (h.c 0 7) .z)<|ye<|q9 (rS (rB (rS (rB (rS (rB (rS (rB (rS (yR1 (.bool ((p.text).toList==(ByteArray.empty).toList)) ?_))))))))));refine⟨zc ?_,h.ch⟩;rw[qgg d];simp[qG,zb, *]<;>omega
   have ar:(p.params.length==0)=false:=by rw[hl];first|(rw[iU];omega)|(rw[jt];omega)
   refine yz 14<|q9 (rS (rB (rS (rB (rS (rB (rS (rB (rS (yR1 (xF) ?_))))))))));refine⟨zc ?_,h.ch⟩;rw[qgg d];simp[qG,zb, *]<;>omega
  have au:=C;refine yz 14<|q9 (rS (rB (rS (rB (rS (rB (rS (rB (rS (yR1 (xF) ?_))))))))));refine⟨zc ?_,h.ch⟩;rw[qgg d];simp[qG,zb, *]<;>omega
 have av:=B;refine yk<|ys<|ys<|yx 2<|yc (rE p.state 3) (fun D=>?_) fun D=>?_
 ·have aw:=D;refine yk<|yc (rE p.state 3) (fun E=>?_) fun E=>?_
  ·have ax:=E;refine qm (eS (eS (eB (eS (eB (eS (eB (eS (qb (nS ?_))))))))));refine ys<|ysr<|yp 1 [] (.a (h.cs 0 0 9) .z)<|yo (yQ (h.look (qgZ p pa pn pc _)) fun u h=>?_);refine yq 3<|yw [83] (rY (qbk 0 qbV p.marks)) (fun F=>?_) fun F=>?_
   ·have ay:=F;refine yp 4 [] (.a (h.cs 0 0 9) .z)<|yo (yQ (h.look (qms p pa pn pc _ (hr.ch h.ch fun _ _ h=>h) hl hz hn)) fun u h=>?_);refine yq 7<|yw [87] (rY (qgR p.params)) (fun G=>?_) fun G=>?_
    ·have az:=G;refine yp 12 [] (.l (h.c 0 7) .z)<|ye<|q9 (rS (rB (rS (rB (rS (rB (rS (yR1 (.bool ((p.text).toList==(ByteArray.empty).toList)) ?_))))))));refine⟨zc ?_,h.ch⟩;rw[qgg d];simp[qG,zb, *]<;>omega
    have aA:=G;refine yz 12<|q9 (rS (rB (rS (rB (rS (rB (rS (yR1 (xF) ?_))))))));refine⟨zc ?_,h.ch⟩;rw[qgg d];simp[qG,zb, *]<;>omega
   have aB:=F;refine yz 12<|q9 (rS (rB (rS (rB (rS (rB (rS (yR1 (xF) ?_))))))));refine⟨zc ?_,h.ch⟩;rw[qgg d];simp[qG,zb, *]<;>omega
  have aC:=E;exfalso;omega
 have aD:=D;refine q7<|yz 2<|yc (rE p.state 4) (fun H=>?_) fun H=>?_
 ·have aE:=H;refine qm (eS (eS (eB (eS (eB (eS (eB (eS (qb (nS ?_))))))))));refine ys<|ysr<|yp 1 [] (.a (h.cs 0 0 9) .z)<|yo (yQ (h.look (qgZ p pa pn pc _)) fun u h=>?_);refine yq 3<|yw [83] (rY (qbk 0 qbV p.marks)) (fun I=>?_) fun I=>?_
  ·have aF:=I;refine yp 4 [] (.a (h.cs 0 0 9) .z)<|yo (yQ (h.look (qms p pa pn pc _ (hr.ch h.ch fun _ _ h=>h) hl hz hn)) fun u h=>?_);refine yq 7<|yw [87] (rY (qgR p.params)) (fun J=>?_) fun J=>?_
   ·have aG:=J;refine yp 12 [] (.l (h.c 0 7) .z)<|ye<|q9 (rS (rB (rS (rB (rS (rB (rS (yR1 (.bool ((p.text).toList==(ByteArray.empty).toList)) ?_))))))));refine⟨zc ?_,h.ch⟩;rw[qgg d];simp[qG,zb, *]<;>omega
   have aH:=J;refine yz 12<|q9 (rS (rB (rS (rB (rS (rB (rS (yR1 (xF) ?_))))))));refine⟨zc ?_,h.ch⟩;rw[qgg d];simp[qG,zb, *]<;>omega
  have aI:=I;refine yz 12<|q9 (rS (rB (rS (rB (rS (rB (rS (yR1 (xF) ?_))))))));refine⟨zc ?_,h.ch⟩;rw[qgg d];simp[qG,zb, *]<;>omega
 have aJ:=H;refine yk<|ys<|yx 2<|yc (rE p.state 7) (fun K=>?_) fun K=>?_
 ·have aK:=K;refine qm (eS (eS (eB (eS (eB (eS (eB (eS (eB (eS (qb (nS ?_))))))))))));refine ysr<|yp 4 [] (.l (h.c 0 8) .z)<|yw [95] (rI p.within 5) (fun L=>?_) fun L=>?_
  ·have aL:=L;refine yp 8 [] (.l (h.c 0 8) .z)<|ye<|yc (rI p.within 6) (fun M=>?_) fun M=>?_
   ·have aM:=M;refine yx 1<|q9 (rB (rS (rB (rS (yR1 (xF) ?_)))));refine⟨zc ?_,h.ch⟩;rw[qgg d];simp[qG,zb, *]<;>omega
   have aN:=M;refine qo (nB (nS ?_));refine ys<|ysr<|yq 2<|yw [101] (rY (qgQ p)) (fun N=>?_) fun N=>?_
   ·have aO:=N;refine yp 3 [] (.a (h.cs 0 0 9) .z)<|yo (yQ (h.look (qmr p pa pn pc _ htz)) fun u h=>?_);refine yz 6<|q9 (rS (rB (rS (yR1 (.bool (qdB p.text)) ?_))));refine⟨zc ?_,h.ch⟩;rw[qgg d];simp[qG,zb, *]<;>omega
   have aP:=N;refine yz 6<|q9 (rS (rB (rS (yR1 (xF) ?_))));refine⟨zc ?_,h.ch⟩;rw[qgg d];simp[qG,zb, *]<;>omega
  have aQ:=L;refine yz 8<|ycf<|qo (nB (nS ?_));refine ys<|ysr<|yq 2<|yw [101] (rY (qgQ p)) (fun O=>?_) fun O=>?_
  ·have aR:=O;refine yp 3 [] (.a (h.cs 0 0 9) .z)<|yo (yQ (h.look (qmr p pa pn pc _ htz)) fun u h=>?_);refine yz 6<|q9 (rS (rB (rS (yR1 (.bool (qdB p.text)) ?_))));refine⟨zc ?_,h.ch⟩;rw[qgg d];simp[qG,zb, *]<;>omega
  have aS:=O;refine yz 6<|q9 (rS (rB (rS (yR1 (xF) ?_))));refine⟨zc ?_,h.ch⟩;rw[qgg d];simp[qG,zb, *]<;>omega
 have aT:=K;refine yk<|ys<|yx 2<|yc (rE p.state 5) (fun P=>?_) fun P=>?_
 ·have aU:=P;refine yk<|yc (rE p.state 5) (fun Q=>?_) fun Q=>?_
  ·have aV:=Q;refine qm (eS (eB (eS (eB (eS (eB (eS (eB (eS (eB (eS (qb (nS ?_)))))))))))));refine ys<|ysr<|yq 2<|yw [101] (rY (qgQ p)) (fun R=>?_) fun R=>?_
   ·have aW:=R;refine yp 3 [] (.a (h.cs 0 0 9) .z)<|yo (yQ (h.look (qmr p pa pn pc _ htz)) fun u h=>?_);refine yz 6<|q9 (rS (rB (rS (yR1 (.bool (qdB p.text)) ?_))));refine⟨zc ?_,h.ch⟩;rw[qgg d];simp[qG,zb, *]<;>omega
   have aX:=R;refine yz 6<|q9 (rS (rB (rS (yR1 (xF) ?_))));refine⟨zc ?_,h.ch⟩;rw[qgg d];simp[qG,zb, *]<;>omega
  have aY:=Q;exfalso;omega
 have aZ:=P;refine q7<|yz 2<|yc (rE p.state 6) (fun S=>?_) fun S=>?_
 ·have b3:=S;refine qm (eS (eB (eS (eB (eS (eB (eS (eB (eS (eB (eS (qb (nS ?_)))))))))))));refine ys<|ysr<|yq 2<|yw [101] (rY (qgQ p)) (fun T=>?_) fun T=>?_
  ·have b4:=T;refine yp 3 [] (.a (h.cs 0 0 9) .z)<|yo (yQ (h.look (qmr p pa pn pc _ htz)) fun u h=>?_);refine yz 6<|q9 (rS (rB (rS (yR1 (.bool (qdB p.text)) ?_))));refine⟨zc ?_,h.ch⟩;rw[qgg d];simp[qG,zb, *]<;>omega
  have b5:=T;refine yz 6<|q9 (rS (rB (rS (yR1 (xF) ?_))));refine⟨zc ?_,h.ch⟩;rw[qgg d];simp[qG,zb, *]<;>omega
 have b6:=S;refine yk<|qm (eB (eS (eB (eS (eB (eS (eB (eS (eB (eS (eB (eS (qb (nS ?_))))))))))))));refine yx 1<|q9 (yR1 (xF) ?_);refine⟨zc ?_,h.ch⟩;rw[qgg d];simp[qG,zb, *]<;>omega
theorem qe1 {P:Program}{N:Nat}{Q:Exit->Act->World->Prop}{f:Fr}{w:World}{x y:Code}{σ:Type}(f':σ->Fr)(I:σ->World->Prop)
  (h1:∀K:Act->World->Prop,(∀s u,I s u-> ∀a,Has N (f' s) a->K a u)->WC P N (Exit.then K Q) x f w) (h2:∀s u,I s u->WC P N Q y (f' s) u):WC P N Q (.seq x y) f w:=
 x_seq fun K hK=>h1 K fun s u hI a ha=>hK (f' s) u (h2 s u hI) a ha
abbrev tSr:TypeId:=165
structure RowO where
 b:Option Nat
 n:Nat
 cap:Nat
 l:List Cel
def RowO.val (x:RowO):Value:= .slice (x.b.map at0) x.n x.cap
structure RowsO (w:World)(m:Nat)(rows:List RowO):Prop where
 line:∀x∈rows,Own w qdn 6 x.b x.n x.cap (qan x.l)/\x.l.length=x.n
 lo:∀x∈rows,∀b,x.b=some b->m<=b
 nd:rows.Pairwise fun x y=> ∀b,x.b=some b->y.b≠some b
structure OutO (w:World)(m:Nat)(o:Option Nat)(n cap:Nat)(rows:List RowO):Prop where
 own:Own w qbY 1 o n cap (rows.map RowO.val)
 lo:∀b,o=some b->m<=b
 rs:RowsO w m rows
theorem rowO_one (rows:List RowO):((rows.map RowO.val).all fun c=>c.oneCell')=true:=by
 refine j3.2 fun v hv=>?_;obtain⟨x,_,rfl⟩:=j7.1 hv;rfl
section
variable {w w':World}{m n cap:Nat}{o:Option Nat}{rows:List RowO}{B:Nat->Prop}
theorem OutO.nil (w:World)(m:Nat):OutO w m none 0 0 []:=⟨Own.nil _ _ _,(fun b e=>by cases e),⟨(fun x hx=>by cases hx),(fun x hx=>by cases hx),List.Pairwise.nil⟩⟩
theorem RowsO.ch (h:RowsO w m rows)(hc:Ch B w w')(hB:∀x∈rows,∀b,x.b=some b-> ¬B b):RowsO w' m rows:=
 ⟨fun x hx=>⟨(h.line x hx).1.ch hc fun g e=>hB x hx g e,(h.line x hx).2⟩,h.lo,h.nd⟩
theorem RowsO.lt (h:RowsO w m rows):∀x∈rows,∀b,x.b=some b->b<w.heap.size:=fun x hx b e=>by
 have:=(h.line x hx).1
 rw[e]at this
 exact this.lt
theorem OutO.ch (h:OutO w m o n cap rows)(hc:Ch B w w')(hB:∀b,m<=b->b<w.heap.size-> ¬B b):OutO w' m o n cap rows:=
 ⟨h.own.ch hc fun g e=>hB g (h.lo g e) (by have:=h.own;rw[e]at this;exact this.lt),h.lo,h.rs.ch hc fun x hx b e=>hB b (h.rs.lo x hx b e) (h.rs.lt x hx b e)⟩
theorem OutO.len (h:OutO w m o n cap rows):rows.length=n:=by
 have:=h.own.1;rwa[hZ,iN]at this
theorem OutO.low {m':Nat}(h:OutO w m o n cap rows)(hm:m'<=m):OutO w m' o n cap rows:=
 ⟨h.own,fun b e=>iq hm (h.lo b e),⟨h.rs.line,fun x hx b e=>iq hm (h.rs.lo x hx b e),h.rs.nd⟩⟩
theorem OutO.off (h:OutO w m o n cap rows){e:Option Nat}{k c:Nat}{xs:List Value}(ho:Own w qbY 1 e k c xs):∀x∈rows,∀b,x.b=some b-> ¬e=some b:=fun x hx b hb he=>by
 obtain⟨h1,h2⟩:=h.rs.line x hx
 rw[hb]at h1
 obtain⟨r1,_,k1⟩:=h1.2.2.2.2 b rfl
 obtain⟨r2,_,k2⟩:=ho.2.2.2.2 b he
 exact tys (k2.inj k1).2
theorem OutO.app {o':Option Nat}{cap' n':Nat}{rows':List RowO}(h:OutO w m o n cap rows)(hr:RowsO w m rows')(hm:m<=w.heap.size)(hd:∀x∈rows,∀y∈rows',∀b,x.b=some b->y.b≠some b)
  (hO:Own w' qbY 1 o' n' cap' ((rows++rows').map RowO.val)) (hA:App w w' o o'):OutO w' m o' n' cap' (rows++rows'):=by
 have hoff':∀x∈rows',∀b,x.b=some b-> ¬o=some b:=fun x hx b hb he=>by
  obtain⟨a,f⟩:=hr.line x hx;rw[hb]at a;obtain⟨i,_,c⟩:=a.2.2.2.2 b rfl;obtain⟨j,_,d⟩:=h.own.2.2.2.2 b he;exact tys (d.inj c).2
 refine⟨hO,fun b e=>?_,⟨fun x hx=>?_,fun x hx=>?_,?_⟩⟩
 ·rcases hA.ne with rfl|⟨g,rfl,hg⟩
  ·exact h.lo b e
  ·have:=ia e;omega
 ·rcases iD.1 hx with hx|hx
  ·exact⟨(h.rs.line x hx).1.ch hA.ch fun g e=>h.off h.own x hx g e,(h.rs.line x hx).2⟩
  ·exact⟨(hr.line x hx).1.ch hA.ch fun g e=>hoff' x hx g e,(hr.line x hx).2⟩
 ·rcases iD.1 hx with hx|hx
  ·exact h.rs.lo x hx
  ·exact hr.lo x hx
 ·exact List.pairwise_append.2 ⟨h.rs.nd,hr.nd,fun x hx y hy=>hd x hx y hy⟩
theorem RowsO.one {b:Option Nat}{k c:Nat}{l:List Cel}(h:Own w qdn 6 b k c (qan l))(hl:l.length=k)(hlo:∀y,b=some y->m<=y):RowsO w m [⟨b,k,c,l⟩]:=
 ⟨fun x hx=>by rw[iA.1 hx];exact⟨h,hl⟩,fun x hx=>by rw[iA.1 hx];exact hlo,List.pairwise_singleton _ _⟩
end
structure SrIn (w:World)(sr rv D:Nat)(fine:Bool)(s:RS):Prop where
 blk:Blk w sr [.pointer (some ⟨rv,0,none⟩),.bool fine] tSr
 rd:RdrAt w rv D s
 ne:¬sr=rv
 nd:¬sr=D
def srB (sr rv:Nat):Nat->Prop:=fun j=>j=sr\/j=rv
def rdA (w1:World)(rv D:Nat)(s:RS):Asn:=
  ⟨fun w F=>(∃a n cap ys bad,Blk w rv [.slice a n cap,.bool bad] tRdr/\(Rd w1 a (u8s ys)/\ys.length=n/\n<=cap/\((n=0/\cap=0)\/ ∃o,a=some ⟨D,o,none⟩)/\qat ys/\ ¬rv=D/\n<=100000000/\D<w1.heap.size)/\s=rsOf bad ys)/\F rv,
   fun⟨⟨a,n,cap,ys,bad,hb,hs⟩,hF⟩ hc hn=>⟨⟨a,n,cap,ys,bad,hb.ch hc (hn rv hF),hs⟩,hF⟩,fun h hF _=>⟨h.1,hF rv h.2⟩⟩
theorem qq2 {w w1:World}{D:Nat}{a:Option Addr}{n cap:Nat}{ys:List Int}(h:Rd w1 a (u8s ys))(hl:ys.length=n)(hz:(n=0/\cap=0)\/ ∃o,a=some ⟨D,o,none⟩)(e:w.heap[D]? =w1.heap[D]?):Rd w a (u8s ys):=by
  rcases hz with⟨b,_⟩|⟨o,rfl⟩
  · obtain rfl:=iy (hl.trans b)
    exact Rd.nil _ _
  · refine⟨(fun e=>by cases e),fun ad c j u hj=>?_⟩
    cases c
    have:=h.2 ⟨D,o,none⟩ rfl j u hj;unfold World.cell? at this⊢;rw[qaZ]at this⊢;dsimp only at this⊢;rw[e];exact this
section
variable {w0 w w':World}{F0:Nat->Prop}{l:List Asn}{rv D:Nat}{s s1:RS}{i j:Nat}
theorem rdA.of {w1:World}{F:Nat->Prop}(h:RdrAt w rv D s)(e:w.heap[D]? =w1.heap[D]?)(hD:D<w1.heap.size)(hF:F rv):(rdA w1 rv D s).P w F:=by
  obtain⟨a,n,d,ys,f,⟨hb,g,b,k,c,m,o,p,q⟩,hs⟩:=h;exact⟨⟨a,n,d,ys,f,hb,⟨qq2 g b c e.symm,b,k,c,m,o,p,hD⟩,hs⟩,hF⟩
end
section
variable {w0 w w':World}{F0:Nat->Prop}{l:List Asn}{rv D:Nat}{s s1:RS}{i:Nat}
theorem Sep.rdrO (h:Sep w0 F0 w l)(i:Nat)(hD:¬F0 D)(hi:l[i]? =some (rdA w0 rv D s):=by rfl):RdrAt w rv D s:=by
 obtain⟨F,⟨⟨a,n,e,ys,f,hb,⟨g,b,j,c,k,m,o,d⟩,hs⟩,_⟩,_⟩:=h.at hi;exact⟨a,n,e,ys,f,⟨hb,qq2 g b c (h.ch.block D d hD),b,j,c,k,m,o,ic d h.ch.size⟩,hs⟩
theorem Sep.readO {P:Program}{k:FuncId}{args:Array Value}{v:Value}(h:Sep w0 F0 w l)(i:Nat)(hD:¬F0 D)(hk:RdrAt w rv D s->Calls P k args w fun e w'=>e= .returned v/\RdrAt w' rv D s1/\Ch (fun j=>j=rv) w w')(hi:l[i]? =some (rdA w0 rv D s):=by rfl):
  Calls P k args w fun e w'=>e= .returned v/\Sep w0 F0 w' (l.set i (rdA w0 rv D s1)):=by
 have hr:=h.rdrO i hD hi;have hh:=h.ch;obtain⟨F,c,d,f⟩:=h.ex;obtain⟨⟨a,n,o,ys,p,hb,⟨q,r,t,u,x,g,y,b⟩,hs⟩,hF⟩:=c i _ hi;refine(hk hr).mono fun e' w' ⟨he,m,hc⟩=>⟨he,h.upd hi F c d f (rdA.of m ((hc.block D (ic b hh.size) (fun e=>g e.symm)).trans (hh.block D b hD)) b (.inl hF)) (hc.mono fun _ _ e=>e▸hF)⟩
theorem RdrAt.nd (h:RdrAt w rv D s):¬D=rv:=by
 obtain⟨a,n,b,ys,c,h,_⟩:=h;exact fun e=>h.ne e.symm
theorem Sep.startRO (h:RdrAt w rv D s):Sep w (fun j=>j=rv) w [rdA w rv D s]:=
 Sep.one (rdA.of h rfl h.dlt rfl) fun b e=>by subst e;exact h.lt
theorem Sep.addR (h:Sep w0 F0 w l)(hD:¬F0 D)(hD0:D<w0.heap.size)(hr:RdrAt w' rv D s)(hlo:w.heap.size<=rv)(hc:Ch (fun _=>False) w w'):Sep w0 F0 w' (l++[rdA w0 rv D s]):=
 h.add (G:=fun k=>k=rv) (rdA.of hr ((hc.block D (ic hD0 h.ch.size) fun h=>h).trans (h.ch.block D hD0 hD)) hD0 rfl) (fun b e=>by subst e;exact⟨hlo,hr.lt⟩) hc
end
def ge (l:List Ev)(i:Nat):Ev:=l.getD i ev0
def qae (T:TS)(e:Ev):TS:=if e.kind=0 then qhN T e.data else if e.kind=2 then qd2 T e.w e.h else T
def qaS (T:TS)(l:List Ev):Nat->TS
 |0=>T
 |k+1=>qae (qaS T l k) (ge l k)
theorem qi2 {l:List Ev}(m:List Ev){i:Nat}(h:i<l.length):ge (l++m) i=ge l i:=by
 unfold ge;rw[ik,iw h,<-ik]
theorem qh0 (l:List Ev)(e:Ev):ge (l++[e]) l.length=e:=by simp[ge]
theorem qkj (T:TS)(l m:List Ev):∀k,k<=l.length->qaS T (l++m) k=qaS T l k
 |0,_=>rfl
 |k+1,h=>by rw[qaS,qaS,qkj T l m k (by omega),qi2 m (by omega)]
structure Ky where
 after:Nat
 state:List Int
structure Rc where
 start:List Int
 evs:List Ev
 keys:List Ky
def gky (l:List Ky)(i:Nat):Ky:=l.getD i ⟨0,[]⟩
def qQ (l:List Ev)(n:Nat):Int:=if n=0 then 0 else(ge l (n-1)).time
abbrev qa1 (l:List Ev):Int:=qQ l l.length
def qR (k:Ky):List Int:=qv k.after++k.state
def qK (c:Int)(b:List Int):List Int:=qad (c::b)
structure Pl where
 out:List Int
 pos:List Int
 k:Nat
def qbu (r:Rc)(i:Nat)(p:Pl):Pl:=if p.k<r.keys.length/\(gky r.keys p.k).after=i then⟨p.out++qK 75 (qR (gky r.keys p.k)),p.pos++[(p.out.length:Int)],p.k+1⟩else p
def evP (r:Rc)(i:Nat)(p:Pl):Pl:=if i<r.evs.length then⟨p.out++qK 69 (evI (qQ r.evs i) (ge r.evs i)),p.pos,p.k⟩else p
def qk (r:Rc):Nat->Pl
 |0=>⟨qK 83 r.start,[],0⟩
 |i+1=>evP r i (qbu r i (qk r i))
abbrev qh (r:Rc):Pl:=qk r (r.evs.length+1)
def qfW (r:Rc)(pos:List Int):Nat->List Int
 |0=>qv pos.length
 |i+1=>qfW r pos i++(qv (gky r.keys i).after++(qv (qQ r.evs (gky r.keys i).after).toNat++qv (pos.getD i 0).toNat))
def qaG (r:Rc)(n:Int)(pos:List Int):List Int:=qK 73 (qfW r pos pos.length)++qK 70 [IntKind.wrap .u8 n,IntKind.wrap .u8 (Int.fdiv n (2^8)),IntKind.wrap .u8 (Int.fdiv n (2^16)),IntKind.wrap .u8 (Int.fdiv n (2^24))]
def qaK (r:Rc)(whole:Bool):List Int:=if whole=true then(qh r).out++qaG r (((qh r).out.length:Nat):Int) (qh r).pos else(qh r).out
structure Sc where
 r:Rc
 T:TS
def qiV (s:Sc)(b:List Int):Option Sc:=
 match evR (qa1 s.r.evs) (some b)with
 |(some e,some [])=>some ⟨⟨s.r.start,s.r.evs++[e],s.r.keys⟩,qae s.T e⟩
 |_=>none
def qq3 (s:Sc)(b:List Int):Option Sc:=
 if qR ⟨s.r.evs.length,qa0 s.T⟩=b/\ ¬(0<s.r.keys.length/\(gky s.r.keys (s.r.keys.length-1)).after=s.r.evs.length)then some ⟨⟨s.r.start,s.r.evs,s.r.keys++[⟨s.r.evs.length,qa0 s.T⟩]⟩,s.T⟩else none
def qbc (s:Sc):List Int->Option Sc
 |[]=>none
 |c::b=>if c=69 then qiV s b else if c=75 then qq3 s b else none
def qfz:Nat->Sc->List Int->Nat->Sc×Nat
 |0,s,_,a=>(s,a)
 |n+1,s,l,a=>if(qb0 l).2=0 then(s,a)else match qbc s (qb0 l).1 with
  |none=>(s,a)
  |some s'=>qfz n s' (l.drop (qb0 l).2) (a+(qb0 l).2)
def qfA (dec:List Int->Option TS)(l:List Int):Option (Sc×Nat):=
 if(qb0 l).2=0 then none else match(qb0 l).1 with
 |[]=>none
 |c::b=>if c=83 then(match dec b with
  |none=>none
  |some T=>some (qfz l.length ⟨⟨b,[],[]⟩,T⟩ (l.drop (qb0 l).2) (qb0 l).2))else none
def qek (s:Sc):List (List Int)->Option Sc
 |[]=>some s
 |f::fs=>match qbc s f with
  |none=>none
  |some s'=>qek s' fs
theorem qh1:∀(fs gs:List (List Int)) (s:Sc),qek s (fs++gs)=match qek s fs with|none=>none|some s'=>qek s' gs
 |[],gs,s=>rfl
 |f::fs,gs,s=>by
  show(match qbc s f with|none=>none|some s'=>qek s' (fs++gs))=match(match qbc s f with|none=>none|some s'=>qek s' fs)with|none=>none|some s'=>qek s' gs
  cases qbc s f with
  |none=>rfl
  |some s'=>exact qh1 fs gs s'
abbrev qcq (fs:List (List Int)):List Int:=(fs.map qad).flatten
theorem qfO:∀(fs:List (List Int)) (s s':Sc) (n a:Nat) (rest:List Int),(∀f∈fs,f.length<2^64)->qek s fs=some s'->fs.length<n->((qb0 rest).2=0\/qbc s' (qb0 rest).1=none)->qfz n s (qcq fs++rest) a=(s',a+(qcq fs).length)
 |[],s,s',n+1,a,rest,_,h,_,hr=>by
  obtain rfl:=ia h
  show(if(qb0 rest).2=0 then(s,a)else match qbc s (qb0 rest).1 with
   |none=>(s,a)
   |some s'=>qfz n s' (rest.drop (qb0 rest).2) (a+(qb0 rest).2))=(s,a+0)
  by_cases h0:(qb0 rest).2=0
  ·rw[if_pos h0];rfl
  ·rw[if_neg h0,hr.resolve_left h0];rfl
 |f::fs,s,s',n+1,a,rest,hl,h,hn,hr=>by
  have e:qcq (f::fs)++rest=qad f++(qcq fs++rest):=by simp[qcq]
  have hx:=qfy (qcq fs++rest) (hl f (jd ..))
  have hp:(qad f).length≠0:=by have:=qbW f;omega
  rw[e,qfz,hx]
  dsimp only
  rw[if_neg hp,List.drop_left]
  have h':(match qbc s f with|none=>none|some s'=>qek s' fs)=some s':=h
  cases ht:qbc s f with
  |none=>rw[ht]at h';cases h'
  |some b=>
   rw[ht]at h'
   dsimp only
   rw[qfO fs b s' n _ rest (fun g hg=>hl g (j6 _ hg)) h' (by simpa using hn) hr]
   refine Prod.ext rfl ?_
   show a+_+_=a+(qcq (f::fs)).length
   simp[qcq];omega
def frK (r:Rc):Nat->List (List Int)×Nat
 |0=>([],0)
 |i+1=>
  let p:=frK r i
  let q:List (List Int)×Nat:=if p.2<r.keys.length/\(gky r.keys p.2).after=i then(p.1++[75::qR (gky r.keys p.2)],p.2+1)else p
  if i<r.evs.length then(q.1++[69::evI (qQ r.evs i) (ge r.evs i)],q.2)else q
theorem qi3 (fs:List (List Int))(f:List Int):qcq (fs++[f])=qcq fs++qad f:=by simp[qcq]
theorem qgh (r:Rc):∀i,(qk r i).out=qK 83 r.start++qcq (frK r i).1/\(qk r i).k=(frK r i).2
 |0=>⟨by simp[qk,frK,qcq],rfl⟩
 |i+1=>by
  obtain⟨h1,h2⟩:=qgh r i
  have hk:(qbu r i (qk r i)).out=qK 83 r.start++qcq (if(frK r i).2<r.keys.length/\(gky r.keys (frK r i).2).after=i then((frK r i).1++[75::qR (gky r.keys (frK r i).2)],(frK r i).2+1)else frK r i).1/\(qbu r i (qk r i)).k=(if(frK r i).2<r.keys.length/\(gky r.keys (frK r i).2).after=i then((frK r i).1++[75::qR (gky r.keys (frK r i).2)],(frK r i).2+1)else frK r i).2:=by
   unfold qbu;rw[h2];split
   ·refine⟨?_,rfl⟩
    dsimp only;rw[h1,qi3,ie];rfl
   ·exact⟨h1,h2⟩
  show(evP r i (qbu r i (qk r i))).out=_/\(evP r i (qbu r i (qk r i))).k=_;unfold frK evP;dsimp only;generalize (if(frK r i).2<r.keys.length/\(gky r.keys (frK r i).2).after=i then((frK r i).1++[75::qR (gky r.keys (frK r i).2)],(frK r i).2+1)else frK r i)=q at hk⊢;split
  ·refine⟨?_,hk.2⟩
   dsimp only;rw[hk.1,qi3,ie];rfl
  ·exact hk
structure RcOk (T0:TS)(r:Rc):Prop where
 evb:∀i,i<r.evs.length->evB (ge r.evs i)=true
 tm:∀i,i<r.evs.length->0<=qQ r.evs i/\qQ r.evs i<=(ge r.evs i).time
 ks:∀j,j<r.keys.length->(gky r.keys j).after<=r.evs.length/\(gky r.keys j).state=qa0 (qaS T0 r.evs (gky r.keys j).after)
 up:∀j,j+1<r.keys.length->(gky r.keys j).after<(gky r.keys (j+1)).after
theorem qq4 {l:List Ev}{i:Nat}(h:i<l.length):l.take (i+1)=l.take i++[ge l i]:=by
 rw[j4 h];simp[ge,List.getD,ig h]
theorem qmt {l:List Ky}{i:Nat}(h:i<l.length):l.take (i+1)=l.take i++[gky l i]:=by
 rw[j4 h];simp[gky,List.getD,ig h]
theorem gky_take {l:List Ky}{i n:Nat}(h:i<n):gky (l.take n) i=gky l i:=by
 unfold gky;rw[ik,j5,if_pos h,<-ik]
theorem qi4 {l:List Ev}{i:Nat}(h:i<=l.length):qa1 (l.take i)=qQ l i:=by
 unfold qa1 qQ;rw[im,jK h];split
 ·rfl
 ·unfold ge
  rw[ik,j5,if_pos (by omega),<-ik]
theorem fr_ok {T0:TS}{r:Rc}(h:RcOk T0 r):∀i,i<=r.evs.length+1->qek ⟨⟨r.start,[],[]⟩,T0⟩ (frK r i).1=some ⟨⟨r.start,r.evs.take i,r.keys.take (frK r i).2⟩,qaS T0 r.evs (min i r.evs.length)⟩/\
  (frK r i).2<=r.keys.length/\(∀j,j<(frK r i).2->(gky r.keys j).after<i)/\((frK r i).2<r.keys.length->i<=(gky r.keys (frK r i).2).after)
 |0,_=>⟨by simp[frK,qek,qaS],ir _,fun j hj=>absurd hj (j0 j),fun _=>ir _⟩
 |i+1,hi=>by
  obtain⟨h1,h2,h3,h4⟩:=fr_ok h i (by omega)
  rw[jK (by omega)]at h1
  obtain⟨q,hq⟩:∃q,q=(if(frK r i).2<r.keys.length/\(gky r.keys (frK r i).2).after=i then((frK r i).1++[75::qR (gky r.keys (frK r i).2)],(frK r i).2+1)else frK r i):=⟨_,rfl⟩
  have hk:qek ⟨⟨r.start,[],[]⟩,T0⟩ q.1=some ⟨⟨r.start,r.evs.take i,r.keys.take q.2⟩,qaS T0 r.evs i⟩/\q.2<=r.keys.length/\(∀j,j<q.2->(gky r.keys j).after<i+1)/\(q.2<r.keys.length->i+1<=(gky r.keys q.2).after):=by
   by_cases hc:(frK r i).2<r.keys.length/\(gky r.keys (frK r i).2).after=i
   ·rw[if_pos hc]at hq
    subst hq;obtain⟨_,ks⟩:=h.ks _ hc.1;refine⟨?_,hc.1,fun j hj=>?_,fun b=>?_⟩
    ·dsimp only
     rw[qh1,h1];have hn:(r.evs.take i).length=i:=by rw[im];omega
     have ht:qbc ⟨⟨r.start,r.evs.take i,r.keys.take (frK r i).2⟩,qaS T0 r.evs i⟩ (75::qR (gky r.keys (frK r i).2))=some ⟨⟨r.start,r.evs.take i,r.keys.take ((frK r i).2+1)⟩,qaS T0 r.evs i⟩:=by
      show qq3 _ _=_;have e:gky r.keys (frK r i).2=⟨i,qa0 (qaS T0 r.evs i)⟩:=by
       rw[hc.2]at ks;cases hg:gky r.keys (frK r i).2 with
       |mk a s=>rw[hg]at ks hc;rw[show a=i from hc.2,show s=_ from ks]
      unfold qq3;dsimp only;have hl:(r.keys.take (frK r i).2).length=(frK r i).2:=by rw[im];omega
      have k:qR ⟨i,qa0 (qaS T0 r.evs i)⟩=qR (gky r.keys (frK r i).2)/\ ¬(0<(r.keys.take (frK r i).2).length/\(gky (r.keys.take (frK r i).2) ((r.keys.take (frK r i).2).length-1)).after=i):=by
       refine⟨by rw[e],fun hh=>?_⟩;rw[hl]at hh;obtain⟨m,l⟩:=hh;rw[gky_take (by omega)]at l;have:=h3 ((frK r i).2-1) (by omega);omega
      rw[hn,if_pos k,qmt hc.1,e]
     show(match qbc _ _ with|none=>none|some s'=>qek s' [])=_;rw[ht];rfl
    ·dsimp only at hj
     rcases iL j (frK r i).2 with hj'|hj'
     ·have:=h3 j hj';omega
     ·rw[show j=(frK r i).2 by omega,hc.2];omega
    ·dsimp only at b⊢
     have:=h.up _ b;omega
   ·rw[if_neg hc]at hq
    subst hq;refine⟨h1,h2,fun j hj=>by have:=h3 j hj;omega,fun b=>?_⟩;have:=h4 b;have:(gky r.keys (frK r i).2).after≠i:=fun e=>hc ⟨b,e⟩;omega
  unfold frK;dsimp only;rw[<-hq];by_cases hl:i<r.evs.length
  ·rw[if_pos hl]
   obtain⟨c,d,f,g⟩:=hk;refine⟨?_,d,f,g⟩;dsimp only;rw[qh1,c,jK (by omega)];have ht:qbc ⟨⟨r.start,r.evs.take i,r.keys.take q.2⟩,qaS T0 r.evs i⟩ (69::evI (qQ r.evs i) (ge r.evs i))=some ⟨⟨r.start,r.evs.take (i+1),r.keys.take q.2⟩,qaS T0 r.evs (i+1)⟩:=by
    show qiV _ _=_;unfold qiV;dsimp only;rw[qi4 (by omega)];have:=evR_put [] (h.evb i hl) (h.tm i hl);rw[iH]at this;rw[this,qq4 hl];rfl
   show(match qbc _ _ with|none=>none|some s'=>qek s' [])=_;rw[ht];rfl
  ·rw[if_neg hl]
   obtain⟨c,d,f,g⟩:=hk;refine⟨?_,d,f,g⟩;have hi':i=r.evs.length:=by omega
   subst hi';rw[c,Nat.min_eq_right (Nat.le_succ _),je (iE _),je (Nat.le_succ _)]
theorem fr_all {T0:TS}{r:Rc}(h:RcOk T0 r):qek ⟨⟨r.start,[],[]⟩,T0⟩ (frK r (r.evs.length+1)).1=some ⟨r,qaS T0 r.evs r.evs.length⟩:=by
 obtain⟨a,c,d,b⟩:=fr_ok h (r.evs.length+1) (iE _);have hk:(frK r (r.evs.length+1)).2=r.keys.length:=by
  rcases iL (frK r (r.evs.length+1)).2 r.keys.length with hl|hl
  ·have:=b hl
   have:=(h.ks _ hl).1;omega
  ·omega
 rw[a,hk,je (by omega),je (by omega),Nat.min_eq_right (by omega)]
theorem qkk:∀fs:List (List Int),5*fs.length<=(qcq fs).length
 |[]=>iE _
 |f::fs=>by
  have h1:=qkk fs
  have h2:=qbW f
  have h3:=qf1 f.length
  have e:qcq (f::fs)=qad f++qcq fs:=by simp[qcq]
  rw[e,hJ,iz];omega
theorem qmu {dec:List Int->Option TS}{T0:TS}{r:Rc}(h:RcOk T0 r)(hd:dec r.start=some T0)(hs:r.start.length+1<2^64)(hl:∀f∈(frK r (r.evs.length+1)).1,f.length<2^64)(rest:List Int)(hr:(qb0 rest).2=0\/qbc ⟨r,qaS T0 r.evs r.evs.length⟩ (qb0 rest).1=none):
  qfA dec ((qh r).out++rest)=some (⟨r,qaS T0 r.evs r.evs.length⟩,(qh r).out.length):=by
 have hp:=(qgh r (r.evs.length+1)).1;have e:(qh r).out++rest=qad (83::r.start)++(qcq (frK r (r.evs.length+1)).1++rest):=by rw[hp,ie];rfl
 have hx:=qfy (qcq (frK r (r.evs.length+1)).1++rest) (show(83::r.start).length<2^64 by simpa using hs);have hn:(qad (83::r.start)).length≠0:=by have:=qbW (83::r.start);omega
 have a:=qkk (frK r (r.evs.length+1)).1;have hf:=qfO (frK r (r.evs.length+1)).1 ⟨⟨r.start,[],[]⟩,T0⟩ _ ((qh r).out++rest).length (qad (83::r.start)).length rest hl (fr_all h) (by rw[e,hJ,hJ];omega) hr;unfold qfA;rw[e,hx];dsimp only;rw[if_neg hn,if_pos rfl,hd];dsimp only;rw[List.drop_left,<-e,hf];congr 2;rw[hp];show _+_=(qad (83::r.start)++_).length;rw[hJ]
abbrev tEv:TypeId:=66
abbrev qhf:TypeId:=51
def evsV (l:List Ev):List Value:=l.flatMap Ev.vals
def qaC (kx:Nat->Option Addr×Nat×Nat):List Ky->Nat->List Value
 |[],_=>[]
 |k::l,i=> .int .i64 k.after:: .slice (kx i).1 (kx i).2.1 (kx i).2.2::qaC kx l (i+1)
theorem evsV_len (l:List Ev):(evsV l).length=l.length*5:=by
 induction l with
 |nil=>rfl
 |cons e l ih=>rw[evsV,jj,hJ];have:(l.flatMap Ev.vals).length=l.length*5:=ih;rw[this,iz];show 5+_=_;omega
theorem qd7 (l:List Ev)(e:Ev):evsV (l++[e])=evsV l++e.vals:=by simp[evsV]
theorem qiW:∀(l:List Ev) (i c:Nat),i<l.length->c<5->(evsV l)[i*5+c]? =(ge l i).vals[c]?
 |e::l,0,c,_,hc=>by
  rw[evsV,jj,iw (by show 0*5+c<5;omega),km,iJ];rfl
 |e::l,i+1,c,hi,hc=>by
  have ih:=qiW l i c (by simpa using hi) hc
  rw[evsV,jj,iF (by show 5<=_;omega),show(i+1)*5+c-e.vals.length=i*5+c by show _-5=_;omega]
  exact ih
theorem qkl (kx:Nat->Option Addr×Nat×Nat):∀(l:List Ky) (i:Nat),(qaC kx l i).length=l.length*2
 |[],_=>rfl
 |k::l,i=>by rw[qaC,iz,iz,qkl kx l (i+1),iz];omega
theorem qf3 (kx:Nat->Option Addr×Nat×Nat):∀(l:List Ky) (j i:Nat),i<l.length->(qaC kx l j)[i*2]? =some (.int .i64 (gky l i).after)/\(qaC kx l j)[i*2+1]? =some (.slice (kx (j+i)).1 (kx (j+i)).2.1 (kx (j+i)).2.2)
 |k::l,j,0,_=>⟨rfl,rfl⟩
 |k::l,j,i+1,hi=>by
  obtain⟨h1,h2⟩:=qf3 kx l (j+1) i (by simpa using hi)
  rw[show j+(i+1)=j+1+i by omega,show(i+1)*2+1=i*2+1+1+1 by omega,show(i+1)*2=i*2+1+1 by omega]
  exact⟨h1,h2⟩
theorem qh2 (kx:Nat->Option Addr×Nat×Nat)(k:Ky):∀(l:List Ky) (i:Nat),qaC kx (l++[k]) i=qaC kx l i++[.int .i64 k.after,.slice (kx (i+l.length)).1 (kx (i+l.length)).2.1 (kx (i+l.length)).2.2]
 |[],i=>rfl
 |q::l,i=>by
  show _::_::qaC kx (l++[k]) (i+1)=_
  rw[qh2 kx k l (i+1),show i+1+l.length=i+(q::l).length by simp;omega];rfl
theorem qkm {kx ky:Nat->Option Addr×Nat×Nat}:∀(l:List Ky) (i:Nat),(∀j,j<l.length->kx (i+j)=ky (i+j))->qaC kx l i=qaC ky l i
 |[],_,_=>rfl
 |k::l,i,h=>by
  have h0:=h 0 (Nat.zero_lt_succ _)
  have ih:=qkm (kx:=kx) (ky:=ky) l (i+1) fun j hj=>by
   have:=h (j+1) (by simpa using hj)
   rw[show i+1+j=i+(j+1) by omega];exact this
  rw[Nat.add_zero]at h0
  rw[qaC,qaC,ih,h0]
structure RcRd (w:World)(b:Nat)(sa:Option Addr)(sn sc:Nat)(eo:Option Nat)(ec:Nat)(ko:Option Nat)(kc:Nat)(kx:Nat->Option Addr×Nat×Nat)(r:Rc):Prop where
 c0:w.cell? ⟨b,0,none⟩=some (.slice sa sn sc)
 c1:w.cell? ⟨b,1,none⟩=some (.slice (eo.map at0) r.evs.length ec)
 c2:w.cell? ⟨b,2,none⟩=some (.slice (ko.map at0) r.keys.length kc)
 st:Rd w sa (u8s r.start)
 sl:r.start.length=sn
 sz:sa=none->sc=0
 ev:Rd w (eo.map at0) (evsV r.evs)
 ks:Rd w (ko.map at0) (qaC kx r.keys 0)
 en:r.evs.length<=10000000/\r.keys.length<=10000000
 kr:∀i,i<r.keys.length->Rd w (kx i).1 (u8s (gky r.keys i).state)/\(gky r.keys i).state.length=(kx i).2.1/\((kx i).1=none->(kx i).2.2=0)
section
variable {w w':World}{b:Nat}{sa:Option Addr}{sn sc:Nat}{eo:Option Nat}{ec:Nat}{ko:Option Nat}{kc:Nat}{kx:Nat->Option Addr×Nat×Nat}{r:Rc}
theorem RcRd.ch (h:RcRd w b sa sn sc eo ec ko kc kx r)(hc:Ch (fun _=>False) w w'):RcRd w' b sa sn sc eo ec ko kc kx r:=
 ⟨qg hc h.c0 fun h=>h,qg hc h.c1 fun h=>h,qg hc h.c2 fun h=>h,h.st.ch hc fun _ _ h=>h,h.sl,h.sz,h.ev.ch hc fun _ _ h=>h,h.ks.ch hc fun _ _ h=>h,h.en,fun i hi=>⟨(h.kr i hi).1.ch hc fun _ _ h=>h,(h.kr i hi).2⟩⟩
theorem RcRd.eb (h:RcRd w b sa sn sc eo ec ko kc kx r)(hl:0<r.evs.length):∃eb,eo=some eb:=by
 cases he:eo with
 |some eb=>exact⟨eb,rfl⟩
 |none=>
  have:=h.ev.1 (by rw[he];rfl);have:=congrArg List.length this;rw[evsV_len]at this;simp at this;omega
theorem RcRd.kb (h:RcRd w b sa sn sc eo ec ko kc kx r)(hl:0<r.keys.length):∃kb,ko=some kb:=by
 cases he:ko with
 |some eb=>exact⟨eb,rfl⟩
 |none=>
  have:=h.ks.1 (by rw[he];rfl);have:=congrArg List.length this;rw[qkl]at this;simp at this;omega
theorem RcRd.evc {eb:Nat}(h:RcRd w b sa sn sc (some eb) ec ko kc kx r){i:Nat}(hi:i<r.evs.length)(c:Nat)(v:Value)(hv:(ge r.evs i).vals[c]? =some v)(hc:c<5):w.cell? ⟨eb,i*5+c,none⟩=some v:=by
 have:=h.ev.2 ⟨eb,0,none⟩ rfl (i*5+c) v ((qiW _ _ _ hi hc).trans hv);rw[qaZ,iJ]at this;exact this
theorem RcRd.kyc {kb:Nat}(h:RcRd w b sa sn sc eo ec (some kb) kc kx r){i:Nat}(hi:i<r.keys.length):w.cell? ⟨kb,i*2,none⟩=some (.int .i64 (gky r.keys i).after)/\w.cell? ⟨kb,i*2+1,none⟩=some (.slice (kx i).1 (kx i).2.1 (kx i).2.2):=by
 obtain⟨f,a⟩:=qf3 kx r.keys 0 i hi;rw[iJ]at a;have d:=h.ks.2 ⟨kb,0,none⟩ rfl _ _ f;have e:=h.ks.2 ⟨kb,0,none⟩ rfl _ _ a;rw[qaZ,iJ]at d e;exact⟨d,e⟩
theorem RcRd.evx {eb:Nat}(h:RcRd w b sa sn sc (some eb) ec ko kc kx r){x:Int}{i:Nat}(hx:x.toNat=i)(hi:i<r.evs.length)(c:Nat)(v:Value)(hv:(ge r.evs i).vals[c]? =some v)(hc:c<5):w.cell? ⟨eb,0+x.toNat*5+c,none⟩=some v:=by
 rw[hx,iJ];exact h.evc hi c v hv hc
theorem RcRd.kyx {kb:Nat}(h:RcRd w b sa sn sc eo ec (some kb) kc kx r){x:Int}{i:Nat}(hx:x.toNat=i)(hi:i<r.keys.length):w.cell? ⟨kb,0+x.toNat*2,none⟩=some (.int .i64 (gky r.keys i).after)/\w.cell? ⟨kb,0+x.toNat*2+1,none⟩=some (.slice (kx i).1 (kx i).2.1 (kx i).2.2):=by
 rw[hx,iJ];exact h.kyc hi
end
structure RcB (r:Rc):Prop where
 st:qat r.start/\r.start.length<=1000000
 ks:∀j,j<r.keys.length->qat (gky r.keys j).state/\(gky r.keys j).state.length<=1000000/\(gky r.keys j).after<=100000000
 ev:∀i,i<r.evs.length->evB (ge r.evs i)=true/\0<=qQ r.evs i/\qQ r.evs i<=(ge r.evs i).time
 ln:∀i,(qk r i).out.length<=100000000
theorem qa2 (c:Int)(l:List Int):(qK c l).length<=l.length+15:=by
 have a:=qbW (c::l);have d:=qH (c::l).length;unfold qK;rw[a,iz];rw[iz]at d;omega
theorem qd8 (k:Ky):(qR k).length<=k.state.length+10:=by
 have:=qH k.after;unfold qR;rw[hJ];omega
theorem pl_k (r:Rc):∀i,(qk r i).pos.length=(qk r i).k/\(qk r i).k<=i
 |0=>⟨rfl,iE _⟩
 |i+1=>by
  obtain⟨h1,h2⟩:=pl_k r i
  have e:(evP r i (qbu r i (qk r i))).pos=(qbu r i (qk r i)).pos/\(evP r i (qbu r i (qk r i))).k=(qbu r i (qk r i)).k:=by unfold evP;split<;>exact⟨rfl,rfl⟩
  show(evP r i (qbu r i (qk r i))).pos.length=(evP r i (qbu r i (qk r i))).k/\(evP r i (qbu r i (qk r i))).k<=i+1
  rw[e.1,e.2]
  unfold qbu
  split
  ·dsimp only;rw[hJ,h1];exact⟨rfl,by omega⟩
  ·exact⟨h1,by omega⟩
theorem pl_a (r:Rc):∀i,i<=r.evs.length+1->(qk r i).k<=r.keys.length/\ ∀j,j<(qk r i).k->(gky r.keys j).after<=r.evs.length
 |0,_=>⟨ir _,fun j h=>absurd h (j0 j)⟩
 |i+1,hi=>by
  obtain⟨h1,h2⟩:=pl_a r i (by omega)
  have e:(evP r i (qbu r i (qk r i))).k=(qbu r i (qk r i)).k:=by unfold evP;split<;>rfl
  show(evP r i (qbu r i (qk r i))).k<=r.keys.length/\ ∀j,j<(evP r i (qbu r i (qk r i))).k->_
  rw[e]
  unfold qbu
  split
  ·rename_i hh
   refine⟨hh.1,fun j hj=>?_⟩
   dsimp only at hj
   rcases iL j (qk r i).k with h|h
   ·exact h2 j h
   ·rw[show j=(qk r i).k by omega,hh.2];omega
  ·exact⟨h1,h2⟩
theorem pl_p {r:Rc}(hW:RcB r):∀i,∀x∈(qk r i).pos,0<=x/\x<=100000000
 |0,x,h=>by cases h
 |i+1,x,h=>by
  have ih:=pl_p hW i
  have hl:=hW.ln i
  have e:(evP r i (qbu r i (qk r i))).pos=(qbu r i (qk r i)).pos:=by unfold evP;split<;>rfl
  have h:x∈(evP r i (qbu r i (qk r i))).pos:=h
  rw[e]at h
  unfold qbu at h
  split at h
  ·rcases iD.1 h with h|h
   ·exact ih x h
   ·rw[iA]at h;omega
  ·exact ih x h
theorem qfB (r:Rc)(ps:List Int):∀j,(qfW r ps j).length<=10+30*j
 |0=>qH _
 |j+1=>by
  have ih:=qfB r ps j
  have h1:=qH (gky r.keys j).after
  have h2:=qH (qQ r.evs (gky r.keys j).after).toNat
  have h3:=qH (ps.getD j 0).toNat
  show(qfW r ps j++_).length<=_
  rw[hJ,hJ,hJ];omega
theorem qgi {r:Rc}(hW:RcB r){ps:List Int}(hp:∀x∈ps,0<=x/\x<=100000000)(hl:ps.length<=r.keys.length)(hk:r.keys.length<=10000000)(ht:∀j,j<ps.length->(gky r.keys j).after<=r.evs.length/\qQ r.evs (gky r.keys j).after<=4611686018427387904):∀j,j<=ps.length->qat (qfW r ps j)
 |0,_=>qp (by omega)
 |j+1,hj=>by
  have ih:=qgi hW hp hl hk ht j (by omega)
  have h1:=(hW.ks j (by omega)).2.2
  have h2:=(ht j (by omega)).2
  have h3:=hp _ (qd6 (l:=ps) (k:=j) (by omega))
  exact ql ih (ql (qp (by omega)) (ql (qp (by omega)) (qp (by omega))))
theorem RcB.tm {r:Rc}(hW:RcB r){n:Nat}(hn:n<=r.evs.length):0<=qQ r.evs n/\qQ r.evs n<=4611686018427387904:=by
 unfold qQ;split
 ·decide
 ·have:=(qfV (hW.ev (n-1) (by omega)).1).1.1
  omega
theorem idx_next (r:Rc)(ps:List Int)(j:Nat):qfW r ps j++qag [(((gky r.keys j).after:Nat):Int),qQ r.evs (gky r.keys j).after,ps.getD j 0]=qfW r ps (j+1):=by simp[qfW,qag]
theorem idx_zero {ps:List Int}{m:Nat}(r:Rc)(h:ps.length=m):qag [(m:Int)]=qfW r ps 0:=by simp[qfW,qag,h]
theorem qf4 (r:Rc)(n:Int)(ps:List Int):(qaG r n ps).length<=100+30*ps.length:=by
 have d:=qfB r ps ps.length;have e:=qa2 73 (qfW r ps ps.length);unfold qaG;rw[hJ];have a:=qa2 70 [IntKind.wrap .u8 n,IntKind.wrap .u8 (Int.fdiv n (2^8)),IntKind.wrap .u8 (Int.fdiv n (2^16)),IntKind.wrap .u8 (Int.fdiv n (2^24))];rw[show([IntKind.wrap .u8 n,IntKind.wrap .u8 (Int.fdiv n (2^8)),IntKind.wrap .u8 (Int.fdiv n (2^16)),IntKind.wrap .u8 (Int.fdiv n (2^24))]:List Int).length=4 from rfl]at a;omega
theorem qfC {r:Rc}{i:Nat}{p q s:Pl}(hp:qk r i=p)(hq:qbu r i p=q)(hs:evP r i q=s):qk r (i+1)=s:=by subst hp hq hs;rfl
theorem qq5 {r:Rc}{i k:Nat}{xs ps:List Int}(h:k<r.keys.length)(ha:(((gky r.keys k).after:Nat):Int)=(i:Int)):qbu r i ⟨xs,ps,k⟩=⟨xs++qK 75 (qR (gky r.keys k)),ps++[(xs.length:Int)],k+1⟩:=if_pos ⟨h,Int.ofNat_inj.1 ha⟩
theorem qmv {r:Rc}{i k:Nat}{xs ps:List Int}(h:¬(k<r.keys.length/\(((gky r.keys k).after:Nat):Int)=(i:Int))):qbu r i ⟨xs,ps,k⟩=⟨xs,ps,k⟩:=if_neg fun hh=>h ⟨hh.1,Int.ofNat_inj.2 hh.2⟩
theorem qq6 {r:Rc}{i k:Nat}{xs ps:List Int}(h:i<r.evs.length):evP r i ⟨xs,ps,k⟩=⟨xs++qK 69 (evI (qQ r.evs i) (ge r.evs i)),ps,k⟩:=if_pos h
theorem ev_no {r:Rc}{i k:Nat}{xs ps:List Int}(h:¬i<r.evs.length):evP r i ⟨xs,ps,k⟩=⟨xs,ps,k⟩:=if_neg h
def roA (L:List (Option Addr×List Int)):Asn:=
 ⟨fun w F=> ∀p∈L,Rd w p.1 (u8s p.2)/\ ∀ad,p.1=some ad->F ad.block,fun h hc hn p hp=>⟨(h p hp).1.ch hc fun ad e=>hn _ ((h p hp).2 ad e),(h p hp).2⟩,fun h hF _ p hp=>⟨(h p hp).1,fun ad e=>hF _ ((h p hp).2 ad e)⟩⟩
section
variable {w0 w w':World}{F0:Nat->Prop}{l m:List Asn}{L:List (Option Addr×List Int)}{i j:Nat}{o:Option Nat}{n c:Nat}{x:List Value}
theorem Sep.ro (h:Sep w0 F0 w l)(i:Nat)(hi:l[i]? =some (roA L):=by rfl):∀p∈L,Rd w p.1 (u8s p.2):=by
 obtain⟨F,a,_⟩:=h.at hi;exact fun p hp=>(a p hp).1
theorem Sep.neA {o':Option Nat}{e e':TypeId}{sz sz' n' c':Nat}{x':List Value}(h:Sep w0 F0 w l)(i j:Nat)(hij:i≠j:=by decide)(hi:l[i]? =some (qa8 e sz o n c x):=by rfl)(hj:l[j]? =some (qa8 e' sz' o' n' c' x'):=by rfl):∀ad,o'.map at0=some ad-> ¬o=some ad.block:=fun ad ha hb=>by
 obtain⟨F,h1,h2,h3⟩:=h.ex
 cases o' with
 |none=>cases ha
 |some q=>
  obtain rfl:=ia ha
  exact h2 i j hij _ ((h1 i _ hi).2 _ hb) ((h1 j _ hj).2 q rfl)
theorem Sep.boxO {b:Nat}{x:List Value}{t:TypeId}(h:Sep w0 F0 w l)(i n:Nat)(hi:l[i]? =some (qbB b x t):=by rfl)(hn:x.length=n*1:=by rfl)(hm:n<=maxLen:=by simp only[maxLen];omega):Sep w0 F0 w (l.set i (qa8 t 1 (some b) n n x)):=by
 obtain⟨_,h⟩:=h.ref (B:=fun _:Unit=>qa8 t 1 (some b) n n x) hi fun _ hA=>⟨(),Own.blk hA.1 hn hm,fun y e=>by obtain rfl:=ia e;exact hA.2⟩
 exact h
theorem Sep.join (h:Sep w0 F0 w l)(h':Sep w (fun _=>False) w' m):Sep w0 F0 w' (l++m):=by
 obtain⟨F,g,k,d⟩:=h.ex;obtain⟨G,p,q,f⟩:=h'.ex;have hz:=h'.ch.size;have u:=h.ch.size;refine Sep.of (h.ch.trans h'.ch fun _ _ h=>h.elim) (fun i b=>if i<l.length then F i b else G (i-l.length) b) (fun i A e=>?_) (fun i j s b hb a=>?_) fun i b hb=>?_
 ·rcases iL i l.length with hi|hi
  ·rw[iw hi]at e
   exact Asn.to (A.ch (g i A e) h'.ch fun _ _ h=>h) fun b=>by rw[if_pos hi]
  ·rw[iF hi]at e
   exact Asn.to (p _ A e) fun b=>by rw[if_neg (by omega)]
 ·by_cases hi:i<l.length
  ·rw[if_pos hi]at hb
   have t:=(d i b hb).2;by_cases hj:j<l.length
   ·rw[if_pos hj]at a;exact k i j s b hb a
   ·rw[if_neg hj]at a;have:=(f _ b a).1.resolve_left fun h=>h;omega
  ·rw[if_neg hi]at hb
   have t:=(f _ b hb).1.resolve_left fun h=>h;by_cases hj:j<l.length
   ·rw[if_pos hj]at a;have:=(d j b a).2;omega
   ·rw[if_neg hj]at a;exact q _ _ (by omega) b hb a
 ·split at hb
  ·have:=d i b hb;exact⟨this.1,by omega⟩
  ·have:=f _ b hb;exact⟨.inr (by have:=this.1.resolve_left fun h=>h;omega),this.2⟩
theorem Sep.toRo (h:Sep w0 F0 w l)(i j:Nat)(a:Option Addr)(y:List Int)(hk:Own w tU8 1 o n c x->Rd w a (u8s y)/\ ∀ad,a=some ad->o=some ad.block)(hij:i≠j:=by decide)(hi:l[i]? =some (roA L):=by rfl)(hj:l[j]? =some (qa8 tU8 1 o n c x):=by rfl):Sep w0 F0 w ((l.set i (roA (L++[(a,y)]))).set j nilA):=by
 obtain⟨F,g,f,k⟩:=h.ex;have t:i<l.length:=(io.1 hi).1;have u:j<l.length:=(io.1 hj).1;obtain⟨hO,hF⟩:=g j _ hj;obtain⟨hr,hb⟩:=hk hO;refine Sep.of h.ch (fun q b=>if q=i then F i b\/F j b else q≠j/\F q b) (fun q A e=>?_) (fun p q s b hb d=>?_) fun q b hb=>?_
 ·by_cases hqj:q=j
  ·subst hqj
   rw[jq (by rw[iR];exact u)]at e;obtain rfl:=ia e;exact trivial
  ·rw[jo (fun h=>hqj h.symm)]at e
   by_cases hqi:q=i
   ·subst hqi
    rw[jq t]at e;obtain rfl:=ia e;intro p hp;rcases iD.1 hp with hp|hp
    ·obtain⟨v,z⟩:=g q _ hi p hp
     exact⟨v,fun ad e=>by(show if q=q then _ else _);rw[if_pos rfl];exact .inl (z ad e)⟩
    ·rw[iA]at hp
     subst hp;exact⟨hr,fun ad e=>by(show if q=q then _ else _);rw[if_pos rfl];exact .inr (hF _ (hb ad e))⟩
   ·rw[jo (fun h=>hqi h.symm)]at e
    exact Asn.to (g q A e) fun b=>by rw[if_neg hqi];exact⟨fun h=>⟨hqj,h⟩,fun h=>h.2⟩
 ·split at hb
  ·rename_i hp
   rw[if_neg (fun h=>s (hp.trans h.symm))]at d;rcases hb with hb|hb
   ·exact f i q (fun h=>s (hp.trans h)) b hb d.2
   ·exact f j q (fun h=>d.1 h.symm) b hb d.2
  ·rename_i hp
   split at d
   ·rcases d with d|d
    ·exact f p i hp b hb.2 d
    ·exact f p j hb.1 b hb.2 d
   ·exact f p q s b hb.2 d.2
 ·split at hb
  ·rcases hb with hb|hb
   ·exact k i b hb
   ·exact k j b hb
  ·exact k q b hb.2
end
def qdj (p:Prop):Asn:=⟨fun _ _=>p,fun h _ _=>h,fun h _ _=>h⟩
abbrev qiX:TypeId:=104
structure ScX where
 sa:Option Addr
 sn:Nat
 sc:Nat
 eo:Option Nat
 ec:Nat
 ko:Option Nat
 kc:Nat
 kx:Nat->Option Addr×Nat×Nat
 t:Nat
def roL (x:ScX)(r:Rc):List (Option Addr×List Int):=(x.sa,r.start)::(List.range r.keys.length).map fun i=>((x.kx i).1,(gky r.keys i).state)
structure ScOk (x:ScX)(r:Rc):Prop where
 sl:r.start.length=x.sn
 sz:x.sa=none->x.sc=0
 kl:∀i,i<r.keys.length->(gky r.keys i).state.length=(x.kx i).2.1/\((x.kx i).1=none->(x.kx i).2.2=0)
 en:r.evs.length<=10000000/\r.keys.length<=10000000
def recC (x:ScX)(r:Rc)(tl:List Value):List Value:= .slice x.sa x.sn x.sc:: .slice (x.eo.map at0) r.evs.length x.ec:: .slice (x.ko.map at0) r.keys.length x.kc::tl
def recL (b:Nat)(r:Rc)(x:ScX)(tl:List Value)(T:TypeId):List Asn:=
 [qbB b (recC x r tl) T,qa8 tEv 5 x.eo r.evs.length x.ec (evsV r.evs),qa8 qhf 2 x.ko r.keys.length x.kc (qaC x.kx r.keys 0),roA (roL x r),qdj (ScOk x r)]
def scanL (b:Nat)(s:Sc)(x:ScX):List Asn:=recL b s.r x [.pointer (some ⟨x.t,0,none⟩)] qiX++[qay x.t s.T]
abbrev qel (b:Nat)(s:Sc):Asn:=qgu (scanL b s)
section
variable {w0 w w':World}{F0:Nat->Prop}{l m:List Asn}{b:Nat}{r:Rc}{x:ScX}{tl:List Value}{T:TypeId}
theorem Sep.pure {p:Prop}(h:Sep w0 F0 w l)(i:Nat)(hi:l[i]? =some (qdj p):=by rfl):p:=by
 obtain⟨F,a,_⟩:=h.at hi;exact a
theorem Sep.rc (h:Sep w0 F0 w l)(h0:l[0]? =some (qbB b (recC x r tl) T):=by rfl)(h1:l[1]? =some (qa8 tEv 5 x.eo r.evs.length x.ec (evsV r.evs)):=by rfl)(h2:l[2]? =some (qa8 qhf 2 x.ko r.keys.length x.kc (qaC x.kx r.keys 0)):=by rfl)(h3:l[3]? =some (roA (roL x r)):=by rfl)(h4:l[4]? =some (qdj (ScOk x r)):=by rfl):RcRd w b x.sa x.sn x.sc x.eo x.ec x.ko x.kc x.kx r:=by
 have hp:=h.pure 4 h4;have hr:=h.ro 3 h3;have hb:=h.b 0 h0;refine⟨hb.c 0 rfl,hb.c 1 rfl,hb.c 2 rfl,hr (x.sa,r.start) (jd ..),hp.sl,hp.sz,(h.own 1 h1).rd,(h.own 2 h2).rd,hp.en,fun i hi=>⟨hr ((x.kx i).1,(gky r.keys i).state) (j6 _ (j7.2 ⟨i,jz.2 hi,rfl⟩)),hp.kl i hi⟩⟩
theorem Sep.scan {sa:Option Addr}{sn sc ec kc n m t:Nat}{eo ko:Option Nat}{start:List Int}{evs:List Ev}{keys:List Ky}{ks:List Value}{L:List (Option Addr×List Int)}{U:TS}(kx:Nat->Option Addr×Nat×Nat)
  (h:Sep w0 F0 w [qbB b [.slice sa sn sc,.slice (eo.map at0) n ec,.slice (ko.map at0) m kc,.pointer (some ⟨t,0,none⟩)] qiX,qa8 tEv 5 eo n ec (evsV evs),qa8 qhf 2 ko m kc ks,roA L,qay t U])
  (hn:evs.length=n) (hm:keys.length=m) (hks:ks=qaC kx keys 0) (hL:L=roL ⟨sa,sn,sc,eo,ec,ko,kc,kx,t⟩ ⟨start,evs,keys⟩) (hok:ScOk ⟨sa,sn,sc,eo,ec,ko,kc,kx,t⟩ ⟨start,evs,keys⟩):Sep w0 F0 w [qel b ⟨⟨start,evs,keys⟩,U⟩]:=by
 subst hn hm hks hL;refine Sep.pack (l:=[]) (L:=scanL b ⟨⟨start,evs,keys⟩,U⟩) ⟨sa,sn,sc,eo,ec,ko,kc,kx,t⟩ ?_;have h':Sep w0 F0 w [qbB b [.slice sa sn sc,.slice (eo.map at0) evs.length ec,.slice (ko.map at0) keys.length kc,.pointer (some ⟨t,0,none⟩)] qiX,qa8 tEv 5 eo evs.length ec (evsV evs),qa8 qhf 2 ko keys.length kc (qaC kx keys 0),roA (roL ⟨sa,sn,sc,eo,ec,ko,kc,kx,t⟩ ⟨start,evs,keys⟩),qdj (ScOk ⟨sa,sn,sc,eo,ec,ko,kc,kx,t⟩ ⟨start,evs,keys⟩),qay t U]:=by
  obtain⟨F,a,d,f⟩:=h.ex;refine Sep.of h.ch (fun i b=>if i=5 then F 4 b else i<4/\F i b) (fun i A e=>?_) (fun i j g b hb c=>?_) fun i b hb=>?_
  ·match i,e with
   |0,e=>exact Asn.to (a 0 A e) fun b=>⟨fun h=>⟨by decide,h⟩,fun h=>h.2⟩
   |1,e=>exact Asn.to (a 1 A e) fun b=>⟨fun h=>⟨by decide,h⟩,fun h=>h.2⟩
   |2,e=>exact Asn.to (a 2 A e) fun b=>⟨fun h=>⟨by decide,h⟩,fun h=>h.2⟩
   |3,e=>exact Asn.to (a 3 A e) fun b=>⟨fun h=>⟨by decide,h⟩,fun h=>h.2⟩
   |4,e=>obtain rfl:=ia e;exact hok
   |5,e=>exact Asn.to (a 4 A e) fun b=>by rw[if_pos rfl]
   |i+6,e=>simp at e
  ·split at hb
   ·rename_i hi
    rw[if_neg (fun h=>g (hi.trans h.symm))]at c;exact d 4 j (by omega) b hb c.2
   ·split at c
    ·exact d i 4 (by omega) b hb.2 c
    ·exact d i j g b hb.2 c.2
  ·split at hb
   ·exact f 4 b hb
   ·exact f i b hb.2
 exact h'
def kxS (kx:Nat->Option Addr×Nat×Nat)(n:Nat)(v:Option Addr×Nat×Nat):Nat->Option Addr×Nat×Nat:=fun i=>if i=n then v else kx i
theorem qfD {kx:Nat->Option Addr×Nat×Nat}{l:List Ky}{k:Ky}{v:Option Addr×Nat×Nat}:qaC kx l 0++[.int .i64 k.after,.slice v.1 v.2.1 v.2.2]=qaC (kxS kx l.length v) (l++[k]) 0:=by
 rw[qh2,iJ,show kxS kx l.length v l.length=v from if_pos rfl];rw[qkm (kx:=kxS kx l.length v) (ky:=kx) l 0 fun j hj=>by rw[iJ];exact if_neg (by omega)]
theorem qiY {x x':ScX}{r r':Rc}{k:Ky}{v:Option Addr×Nat×Nat}(h1:x'.sa=x.sa)(h2:r'.start=r.start)(h3:r'.keys=r.keys++[k])(h4:x'.kx=kxS x.kx r.keys.length v):roL x r++[(v.1,k.state)]=roL x' r':=by
 unfold roL;rw[h1,h2,h3,h4,hJ,jv,List.range_succ,iI,List.cons_append];have a:(List.range r.keys.length).map (fun i=>((kxS x.kx r.keys.length v i).1,(gky (r.keys++[k]) i).state))=(List.range r.keys.length).map fun i=>((x.kx i).1,(gky r.keys i).state):=jA fun i hi=>by
  have:=jz.1 hi;rw[show kxS x.kx r.keys.length v i=x.kx i from if_neg (by omega)];unfold gky;rw[ik,iw this,<-ik]
 rw[a];have c:kxS x.kx r.keys.length v r.keys.length=v:=if_pos rfl;have d:gky (r.keys++[k]) r.keys.length=k:=by simp[gky]
 simp only[k5,List.map_nil,c,d]
theorem qh3 {x x':ScX}{r r':Rc}{k:Ky}{v:Option Addr×Nat×Nat}(h:ScOk x r)(h0:x'.sa=x.sa/\x'.sn=x.sn/\x'.sc=x.sc)(h2:r'.start=r.start)(h3:r'.keys=r.keys++[k])(h4:x'.kx=kxS x.kx r.keys.length v)(h5:k.state.length=v.2.1)(h6:v.1=none->v.2.2=0)(h7:r'.evs.length<=10000000/\r'.keys.length<=10000000):ScOk x' r':=by
 refine⟨by rw[h2,h0.2.1];exact h.sl,by rw[h0.1,h0.2.2];exact h.sz,fun i hi=>?_,h7⟩;rw[h3,hJ,jv]at hi;rw[h3,h4];rcases iL i r.keys.length with hl|hl
 ·rw[show kxS x.kx r.keys.length v i=x.kx i from if_neg (by omega)]
  have e:gky (r.keys++[k]) i=gky r.keys i:=by unfold gky;rw[ik,iw hl,<-ik]
  rw[e];exact h.kl i hl
 ·obtain rfl:i=r.keys.length:=by omega
  rw[show kxS x.kx r.keys.length v r.keys.length=v from if_pos rfl];have e:gky (r.keys++[k]) r.keys.length=k:=by simp[gky]
  rw[e];exact⟨h5,h6⟩
theorem qq7 {r:Rc}{U:TS}{l:List Int}{e:Ev}(h:evR (qa1 r.evs) (some l)=(some e,some [])):qbc ⟨r,U⟩ (69::l)=some ⟨⟨r.start,r.evs++[e],r.keys⟩,qae U e⟩:=by
 show qiV _ _=_;unfold qiV;rw[h]
theorem qmw {r:Rc}{U:TS}{l:List Int}{eo:Option Ev}{s1:RS}(h:evR (qa1 r.evs) (some l)=(eo,s1))(hn:eo=none\/ ¬s1=some []):qbc ⟨r,U⟩ (69::l)=none:=by
 show qiV _ _=_;unfold qiV;rw[h];split
 ·rename_i e a
  obtain⟨rfl,rfl⟩:=iC a;exact absurd rfl (hn.resolve_left (by simp))
 ·rfl
theorem qkn {r:Rc}{U:TS}{l:List Int}(h:qR ⟨r.evs.length,qa0 U⟩=l)(hn:¬(0<r.keys.length/\(gky r.keys (r.keys.length-1)).after=r.evs.length)):qbc ⟨r,U⟩ (75::l)=some ⟨⟨r.start,r.evs,r.keys++[⟨r.evs.length,qa0 U⟩]⟩,U⟩:=if_pos ⟨h,hn⟩
theorem qbl {r:Rc}{U:TS}{l:List Int}(h:¬(qR ⟨r.evs.length,qa0 U⟩=l/\ ¬(0<r.keys.length/\(gky r.keys (r.keys.length-1)).after=r.evs.length))):qbc ⟨r,U⟩ (75::l)=none:=if_neg h
theorem qmx {s:Sc}{l:List Int}{c:Int}(h1:¬c=69)(h2:¬c=75):qbc s (c::l)=none:=by
 show(if c=69 then _ else if c=75 then _ else none)=none;rw[if_neg h1,if_neg h2]
theorem Sep.kya {kb n c:Nat}{keys:List Ky}{kx:Nat->Option Addr×Nat×Nat}(h:Sep w0 F0 w l)(i:Nat)(y:Int)(q:Nat)(hi:l[i]? =some (qa8 qhf 2 (some kb) n c (qaC kx keys 0)):=by rfl)(hy:y.toNat=q:=by omega)(hq:q<keys.length:=by omega):w.cell? ⟨kb,0+y.toNat*2,none⟩=some (.int .i64 (gky keys q).after):=by
 have:=(h.own i hi).rd.2 ⟨kb,0,none⟩ rfl _ _ (qf3 kx keys 0 q hq).1;rw[qaZ]at this;rw[hy];exact this
theorem SepOn.kya {is:List Nat}{kb n c:Nat}{keys:List Ky}{kx:Nat->Option Addr×Nat×Nat}(h:SepOn w0 F0 l is w)(i:Nat)(y:Int)(q:Nat)(hm:is.contains i=true:=by rfl)(hi:l[i]? =some (qa8 qhf 2 (some kb) n c (qaC kx keys 0)):=by rfl)(hy:y.toNat=q:=by omega)(hq:q<keys.length:=by omega):w.cell? ⟨kb,0+y.toNat*2,none⟩=some (.int .i64 (gky keys q).after):=by
 obtain⟨l',h,e⟩:=h;have:=jE.1 e i (by simpa using hm);exact h.kya i y q (this.trans hi) hy hq
theorem Sep.newTm {t:Nat}{U:TS}(h:Sep w0 F0 w l)(hA:TermAt w' t U (fun b=>w.heap.size<=b/\b<w'.heap.size))(hc:Ch (fun _=>False) w w'):Sep w0 F0 w' (l++[qay t U]):=
 h.add (A:=qay t U) (tmA.of hA) (fun _ hb=>hb) hc
theorem Sep.ro0 (h:Sep w0 F0 w l):Sep w0 F0 w (l++[roA []]):=
 h.add (A:=roA []) (G:=fun _=>False) (fun p hp=>by cases hp) (fun _ h=>h.elim) (Ch.refl _ _)
def qc1 (dec:List Int->Option TS)(f:List Int):Option Sc:=match qfA dec f with
 |none=>none
 |some (s,k)=>if k<f.length/\ ¬qaK s.r true=f then none else some s
theorem qiZ {dec:List Int->Option TS}{f xs:List Int}{k:Nat}(h:qb0 f=(xs,k))(hn:k=0\/xs=[]\/ ¬xs.getD 0 0=83):qfA dec f=none:=by
 unfold qfA;rw[h];dsimp only;split
 ·rfl
 ·rename_i hk
  cases xs with
  |nil=>rfl
  |cons c q=>
   dsimp only;rw[if_neg];rcases hn with hn|hn|hn
   ·exact absurd hn hk
   ·cases hn
   ·exact hn
theorem qh4 {dec:List Int->Option TS}{f q:List Int}{k:Nat}(h:qb0 f=(83::q,k))(hk:¬k=0):qfA dec f=match dec q with|none=>none|some U=>some (qfz f.length ⟨⟨q,[],[]⟩,U⟩ (f.drop k) k):=by
 unfold qfA;rw[h];dsimp only;rw[if_neg hk,if_pos rfl]
 all_goals (cases dec q<;>rfl)
theorem qko {n a k:Nat}{s:Sc}{f xs:List Int}(h:qb0 f=(xs,k))(hn:k=0\/qbc s xs=none):qfz (n+1) s f a=(s,a):=by
 unfold qfz;rw[h];dsimp only;split
 ·rfl
 ·rename_i hk;rw[hn.resolve_left hk]
theorem readF_go {n a k:Nat}{s s':Sc}{f xs:List Int}(h:qb0 f=(xs,k))(hk:¬k=0)(ht:qbc s xs=some s'):qfz (n+1) s f a=qfz n s' (f.drop k) (a+k):=by
 rw[qfz,h];dsimp only;rw[if_neg hk,ht]
theorem take_len {s s':Sc}{f:List Int}(h:qbc s f=some s'):s'.r.evs.length<=s.r.evs.length+1/\s'.r.keys.length<=s.r.keys.length+1:=by
 unfold qbc at h;split at h
 ·cases h
 ·split at h
  ·unfold qiV at h
   split at h
   ·obtain rfl:=ia h;exact⟨by simp,Nat.le_succ _⟩
   ·cases h
  ·split at h
   ·unfold qq3 at h
    split at h
    ·obtain rfl:=ia h;exact⟨Nat.le_succ _,by simp⟩
    ·cases h
   ·cases h
theorem Own.len1' {o:Option Nat}{n c:Nat}{f:List Int}(h:Own w tU8 1 o n c (u8s f)):f.length=n:=by
 have:=h.len1;rwa[hZ]at this
theorem qq8 {s:Sc}{F:Nat->Prop}(h:(qel b s).P w F)(hF:∀k,F k->k<w.heap.size):∃sa sn sc eo ec ko kc kx,RcRd w b sa sn sc eo ec ko kc kx s.r:=by
 obtain⟨x,h⟩:=Sep.startP h hF;obtain⟨sa,sn,sc,eo,ec,ko,kc,kx,t⟩:=x;exact⟨_,_,_,_,_,_,_,_,h.rc⟩
end
theorem qq9 {d:ByteArray}:(d.toList==ByteArray.empty.toList)=decide (d.size=0):=by
 rw[iQ];constructor
 ·intro h;rw[qhM h];decide
 intro h;rw[bytes0 (iK h)];simp[E0]
theorem qbq {t k W H:Int}{d:ByteArray}:evB ⟨t,k,d,W,H⟩=decide ((0<=t/\t<4611686018427387904/\d.size<=400)/\((k=2/\d.size=0/\1<=W/\1<=H/\W<=1000/\H<=1000)\/((k=0\/k=1\/k=3)/\W=0/\H=0))):=by
 unfold evB;dsimp only;split
 ·exact(jr (by omega)).symm
 split
 ·rw[decide_eq_decide];omega
 split
 ·rw[decide_eq_decide];omega
 exact(jr (by omega)).symm
theorem qd9 (t k W H:Int)(d:ByteArray)(w:World):CP 74 [.agg #[iX t,iX k,.string d,iX W,iX H]].toArray w (RQ (.bool (evB ⟨t,k,d,W,H⟩)) w):=by
 have h:=Sep.nil w;refine yA Tryz.func74 rfl<|ysr<|yo (zN [iX t,iX k,.string d,iX W,iX H] 66 h fun u A h=>?_);refine yz 2<|ys<|qa<|ysr<|yp 4 [] (.l (h.c 0 0) .z)<|yw [7] (rL t 0) (fun a=>?_) fun a=>?_
 ·have B:=a;refine yz 15<|yct<|yx 1<|q9 (rB (rS (yR1 (xF) ?_)));refine⟨zc ?_,h.ch⟩;rw[qbq,iQ];simp only[iU,ip,iv,ji];omega
 have C:=a;refine yp 9 [] (.l (h.c 0 0) .z)<|yw [12] (rM 4611686018427387904 t) (fun b=>?_) fun b=>?_
 ·have D:=b;refine yz 15<|yct<|yx 1<|q9 (rB (rS (yR1 (xF) ?_)));refine⟨zc ?_,h.ch⟩;rw[qbq,iQ];simp only[iU,ip,iv,ji];omega
 have E:=b;refine yp 15 [] (.l (h.c 0 2) .z)<|ye<|yc (rL 400 ((d).size:Int)) (fun f=>?_) fun f=>?_
 ·have F:=f;refine yx 1<|q9 (rB (rS (yR1 (xF) ?_)));refine⟨zc ?_,h.ch⟩;rw[qbq,iQ];simp only[iU,ip,iv,ji];omega
 have G:=f;refine ysr<|yp 4 [] (.l (h.c 0 1) .z)<|ye<|yc (rE k 2) (fun g=>?_) fun g=>?_
 ·have I:=g;refine ysr<|yp 4 [] (.l (h.c 0 2) .z)<|yw [25] (rY ((d).toList==(ByteArray.empty).toList)) (fun i=>?_) fun i=>?_
  ·have x:=i;simp only[qq9,ip,Bool.not_eq_true,decide_eq_false_iff_not]at x;refine yp 9 [] (.l (h.c 0 3) .z)<|yw [30] (rM 1 W) (fun j=>?_) fun j=>?_
   ·have J:=j;refine yp 14 [] (.l (h.c 0 4) .z)<|yw [35] (rM 1 H) (fun m=>?_) fun m=>?_
    ·have K:=m;refine yp 19 [] (.l (h.c 0 3) .z)<|yw [40] (rM W 1000) (fun n=>?_) fun n=>?_
     ·have L:=n;refine yp 24 [] (.l (h.c 0 4) .z)<|ye<|q9 (rB (rS (yR1 (.bool (decide (H<=1000))) ?_)));refine⟨zc ?_,h.ch⟩;rw[qbq,iQ];simp only[iU,ip,iv,ji];omega
     have M:=n;refine yz 24<|q9 (rB (rS (yR1 (xF) ?_)));refine⟨zc ?_,h.ch⟩;rw[qbq,iQ];simp only[iU,ip,iv,ji];omega
    have N:=m;refine yz 24<|q9 (rB (rS (yR1 (xF) ?_)));refine⟨zc ?_,h.ch⟩;rw[qbq,iQ];simp only[iU,ip,iv,ji];omega
   have O:=j;refine yz 24<|q9 (rB (rS (yR1 (xF) ?_)));refine⟨zc ?_,h.ch⟩;rw[qbq,iQ];simp only[iU,ip,iv,ji];omega
  have y:=i;simp only[qq9,ip,Bool.not_eq_true,decide_eq_false_iff_not]at y;refine yz 24<|q9 (rB (rS (yR1 (xF) ?_)));refine⟨zc ?_,h.ch⟩;rw[qbq,iQ];simp only[iU,ip,iv,ji];omega
 have P:=g;refine ysr<|yp 4 [] (.l (h.c 0 1) .z)<|yw [49] (rE k 0) (fun o=>?_) fun o=>?_
 ·have Q:=o;refine yz 14<|yct<|ysr<|yp 4 [] (.l (h.c 0 3) .z)<|yw [62] (rE W 0) (fun p=>?_) fun p=>?_
  ·have R:=p;refine yp 9 [] (.l (h.c 0 4) .z)<|ye<|q9 (rB (rS (yR1 (.bool ((H:Int)==0)) ?_)));refine⟨zc ?_,h.ch⟩;rw[qbq,iQ];simp only[iU,ip,iv,ji];omega
  have S:=p;refine yz 9<|q9 (rB (rS (yR1 (xF) ?_)));refine⟨zc ?_,h.ch⟩;rw[qbq,iQ];simp only[iU,ip,iv,ji];omega
 have T:=o;refine yp 9 [] (.l (h.c 0 1) .z)<|yw [54] (rE k 1) (fun q=>?_) fun q=>?_
 ·have U:=q;refine yz 14<|yct<|ysr<|yp 4 [] (.l (h.c 0 3) .z)<|yw [62] (rE W 0) (fun r=>?_) fun r=>?_
  ·have V:=r;refine yp 9 [] (.l (h.c 0 4) .z)<|ye<|q9 (rB (rS (yR1 (.bool ((H:Int)==0)) ?_)));refine⟨zc ?_,h.ch⟩;rw[qbq,iQ];simp only[iU,ip,iv,ji];omega
  have X:=r;refine yz 9<|q9 (rB (rS (yR1 (xF) ?_)));refine⟨zc ?_,h.ch⟩;rw[qbq,iQ];simp only[iU,ip,iv,ji];omega
 have Y:=q;refine yp 14 [] (.l (h.c 0 1) .z)<|ye<|yc (rE k 3) (fun s=>?_) fun s=>?_
 ·have Z:=s;refine ysr<|yp 4 [] (.l (h.c 0 3) .z)<|yw [62] (rE W 0) (fun v=>?_) fun v=>?_
  ·have a0:=v;refine yp 9 [] (.l (h.c 0 4) .z)<|ye<|q9 (rB (rS (yR1 (.bool ((H:Int)==0)) ?_)));refine⟨zc ?_,h.ch⟩;rw[qbq,iQ];simp only[iU,ip,iv,ji];omega
  have a1:=v;refine yz 9<|q9 (rB (rS (yR1 (xF) ?_)));refine⟨zc ?_,h.ch⟩;rw[qbq,iQ];simp only[iU,ip,iv,ji];omega
 have a2:=s;refine qo (nB (nS ?_));refine yx 1<|q9 (yR1 (xF) ?_);refine⟨zc ?_,h.ch⟩;rw[qbq,iQ];simp only[iU,ip,iv,ji];omega
theorem qf5 (o:Option Nat)(n cap:Nat)(xs:List Int)(fr t k W H:Int)(d:ByteArray)(w:World)(hO:Own w tU8 1 o n cap (u8s xs))(hB:evB ⟨t,k,d,W,H⟩=true)(h0:0<=fr/\fr<=t)(hz:n+1000<=1000000000):CP 77 [.slice (o.map at0) n cap,iX fr,.agg #[iX t,iX k,.string d,iX W,iX H]].toArray w fun e w'=> ∃o' n' c',e= .returned (.slice (o'.map at0) n' c')/\Own w' tU8 1 o' n' c' (u8s (xs++evI fr ⟨t,k,d,W,H⟩))/\(xs++evI fr ⟨t,k,d,W,H⟩).length=n'/\App w w' o o':=by
 obtain⟨⟨J,K⟩,L⟩:=qfV hB;dsimp only at*;have M:0<=k/\k<=3:=by omega
 have h:=Sep.startO hO;refine yA Tryz.func77 rfl<|ysr<|yo (zN [iX t,iX k,.string d,iX W,iX H] 66 h fun u N h=>?_);refine yz 2<|ysr<|yp 9 [3,8] (.l (h.c 1 1) (.p (q:=InR .u64 k) (qao (by omega) (by omega)) (.l (h.c 1 0) (.q6 (t-fr) (.p (q:=InR .u64 (t-fr)) (qao (by omega) (by omega)) .z)))))<|yo (zB [.int .u64 k,.int .u64 (t-fr)] 110 2 h fun u O h=>?_);refine yo (yC (qcF (xs:=xs) 2 [k,(t-fr)] (h.own 0) (Rd.all (h.b 2)) (bC (bC bN)) (h.b 2).lt (h.neo 0 2)) ?_);rintro _ u ⟨P,j,Q,rfl,m,R,r⟩;refine⟨_,rfl,?_⟩;have h:=h.appI 0 m r;have S:(xs++qag [k,(t-fr)]).length=j:=by have:=h.len1 0;rwa[hZ]at this
 refine yz 12<|ys<|ysr<|yp 3 [] (.l (h.c 1 1) .z)<|ye<|yc (rE k 2) (fun a=>?_) fun a=>?_
 ·have s:=a;refine ysr<|yp 7 [3,6] (.l (h.c 1 3) (.p (q:=InR .u64 W) (qao (by omega) (by omega)) (.l (h.c 1 4) (.p (q:=InR .u64 H) (qao (by omega) (by omega)) .z))))<|yo (zB [.int .u64 W,.int .u64 H] 110 2 h fun u T h=>?_);refine yo (yC (qcF (xs:=xs++qag [k,(t-fr)]) 2 [W,H] (h.own 0) (Rd.all (h.b 3)) (bC (bC bN)) (h.b 3).lt (h.neo 0 3)) ?_);rintro _ u ⟨v,g,x,rfl,y,U,A⟩;refine⟨_,rfl,?_⟩;have h:=h.appI 0 y A;have B:(xs++qag [k,(t-fr)]++qag [W,H]).length=g:=by have:=h.len1 0;rwa[hZ]at this
  refine yz 10<|q9 (rS (yR1 (.slice (v.map at0) g x) ?_));obtain⟨hO,hA⟩:=h.finA 0 (hp:=by have:=B;simp only[hJ]at this;have:=qf1 k.toNat;simp[qag]at*;omega);have f:(xs++qag [k,(t-fr)]++qag [W,H]:List Int)=xs++evI fr ⟨t,k,d,W,H⟩:=by unfold evI;dsimp only;rw[if_pos s];simp only[qag,jj,jy,ie,iH]
  rw[f]at hO;exact⟨_,_,_,rfl,hO,by have:=hO.len1;rw[qU]at this;exact this,hA⟩
 have C:=a;refine yk<|ysr<|yp 3 [] (.l (h.c 1 2) .z)<|yo (yC (qaQ (xs:=xs++qag [k,(t-fr)]) (h.own 0) d (by omega)) ?_);rintro _ u ⟨D,i,E,rfl,F,V,G⟩;refine⟨_,rfl,?_⟩;have h:=h.appI 0 F G;have I:(xs++qag [k,(t-fr)]++qbt d).length=i:=by have:=h.len1 0;rwa[hZ]at this
 refine yz 5<|q9 (yR1 (.slice (D.map at0) i E) ?_);obtain⟨hO,hA⟩:=h.finA 0 (hp:=by have:=I;simp only[hJ]at this;have:=qf1 k.toNat;simp[qag]at*;omega);have f:(xs++qag [k,(t-fr)]++qbt d:List Int)=xs++evI fr ⟨t,k,d,W,H⟩:=by unfold evI;dsimp only;rw[if_neg C];simp only[qag,jj,jy,ie,iH]
 rw[f]at hO;exact⟨_,_,_,rfl,hO,by have:=hO.len1;rw[qU]at this;exact this,hA⟩
theorem qnG {rv D:Nat}{s0 s1:RS}{eo:Option Ev}(fr:Int)(w:World)(hA:RdrAt w rv D s0)(hE:evR fr s0=(eo,s1))(hfr:0<=fr/\fr<=4611686018427387904):CP 64 [pX rv,iX fr].toArray w fun e w'=>e= .returned (.tuple #[.agg (eo.getD ev0).vals.toArray,.bool eo.isSome])/\RdrAt w' rv D s1/\Ch (· =rv) w w':=by
 have hD:=hA.nd;have h:=Sep.startRO hA;refine yA Tryz.func64 rfl<|ysr<|yo (zN [iX 0,iX 0,oX,iX 0,iX 0] 66 h fun u T h=>?_);refine yz 2<|ysr<|yq 1 ?_;obtain⟨f,C,b⟩:∃x s',qP (4) s0=(x,s'):=⟨_,_,rfl⟩
 have E:=qaa (lim:=4) (s:=s0);rw[b]at E;dsimp only at E;refine yo (yQ (h.readO 0 hD fun hA=>qa3 (lim:=4) hA b (by omega)) fun u h=>?_);refine yq 3<|yo (zN [iX 0,iX 0,oX,iX 0,iX 0] 66 h fun u U h=>?_);refine yo (zs h 2 fun u h=>?_);refine ye<|ysr<|yq 2 ?_;obtain⟨g,m,d⟩:∃x s',qP (4611686018427387904) C=(x,s'):=⟨_,_,rfl⟩
 have F:=qaa (lim:=4611686018427387904) (s:=C);rw[d]at F;dsimp only at F;refine yo (yQ (h.readO 0 hD fun hA=>qa3 (lim:=4611686018427387904) hA d (by omega)) fun u h=>?_);refine yp 5 [] (.q6 (fr+g) .z)<|yo (zs h 2 fun u h=>?_);refine ye<|ys<|ysr<|yp 3 [] (.l (h.c 2 1) .z)<|ye<|yc (rE f 2) (fun n=>?_) fun n=>?_
 ·have o:=n;refine q7<|yq 1 ?_;obtain⟨p,G,i⟩:∃x s',qP (1001) m=(x,s'):=⟨_,_,rfl⟩
  have H:=qaa (lim:=1001) (s:=m);rw[i]at H;dsimp only at H;refine yo (yQ (h.readO 0 hD fun hA=>qa3 (lim:=1001) hA i (by omega)) fun u h=>?_);refine yq 3 ?_;obtain⟨q,J,j⟩:∃x s',qP (1001) G=(x,s'):=⟨_,_,rfl⟩
  have I:=qaa (lim:=1001) (s:=G);rw[j]at I;dsimp only at I;refine yo (yQ (h.readO 0 hD fun hA=>qa3 (lim:=1001) hA j (by omega)) fun u h=>?_);refine yq 5<|yo (zs h 2 fun u h=>?_);refine yq 7<|yo (zs h 2 fun u h=>?_);refine ye<|ys<|ysr<|yq 1<|yo (yQ (h.look (qgf (h.rdrO 0 hD))) fun u h=>?_);refine yq 4<|yw [30] (rN (rY J.isSome)) (fun r=>?_) fun r=>?_
  ·have K:=r;refine yz 8<|yct<|ysr<|yq 1<|yo (zs h 1 fun u h=>?_);refine yz 3<|q9 (rS (yR2 [.agg #[iX 0,iX 0,oX,iX 0,iX 0],xF] (.a (h.cs 1 0 5) .z) ?_));unfold evR at hE;simp only[E0,b,d,i,j,if_pos o]at hE;rw[if_neg (fun hh=>absurd hh.1 (by simpa using K))]at hE;obtain⟨rfl,rfl⟩:=iC hE;exact⟨rfl,h.rdrO 0 hD,h.ch⟩
  have L:=r;refine yp 5 [] (.a (h.cs 2 0 5) .z)<|yo (yQ (h.look (qd9 ((fr+g)) (f) (p) (q) (ByteArray.empty) _)) fun u h=>?_);refine yz 8<|yc (rN (rY (evB ⟨(fr+g),f,ByteArray.empty,p,q⟩))) (fun t=>?_) fun t=>?_
  ·have M:=t;refine ysr<|yq 1<|yo (zs h 1 fun u h=>?_);refine yz 3<|q9 (rS (yR2 [.agg #[iX 0,iX 0,oX,iX 0,iX 0],xF] (.a (h.cs 1 0 5) .z) ?_));unfold evR at hE;simp only[E0,b,d,i,j,if_pos o]at hE;rw[if_neg (fun hh=>absurd hh.2 (by simpa using M))]at hE;obtain⟨rfl,rfl⟩:=iC hE;exact⟨rfl,h.rdrO 0 hD,h.ch⟩
  have N:=t;refine yk<|ysr<|yp 1 [] (.a (h.cs 2 0 5) .z)<|yo (zs h 1 fun u h=>?_);refine yz 3<|q9 (yR2 [.agg #[iX (fr+g),iX f,oX,iX p,iX q],.bool true] (.a (h.cs 1 0 5) .z) ?_);unfold evR at hE;simp only[E0,b,d,i,j,if_pos o]at hE;rw[if_pos ⟨by simpa using L,by simpa using N⟩]at hE;obtain⟨rfl,rfl⟩:=iC hE;exact⟨rfl,h.rdrO 0 hD,h.ch⟩
 have v:=n;refine q7<|yq 1 ?_;obtain⟨y,O,k⟩:∃x s',qbb (400) m=(x,s'):=⟨_,_,rfl⟩
 refine yo (yQ (h.readO 0 hD fun hA=>qcU (most:=400) hA k (by decide)) fun u h=>?_);refine yq 3<|yo (zs h 2 fun u h=>?_);refine ye<|ys<|ysr<|yq 1<|yo (yQ (h.look (qgf (h.rdrO 0 hD))) fun u h=>?_);refine yq 4<|yw [30] (rN (rY O.isSome)) (fun A=>?_) fun A=>?_
 ·have P:=A;refine yz 8<|yct<|ysr<|yq 1<|yo (zs h 1 fun u h=>?_);refine yz 3<|q9 (rS (yR2 [.agg #[iX 0,iX 0,oX,iX 0,iX 0],xF] (.a (h.cs 1 0 5) .z) ?_));unfold evR at hE;simp only[E0,b,d,k,if_neg v]at hE;rw[if_neg (fun hh=>absurd hh.1 (by simpa using P))]at hE;obtain⟨rfl,rfl⟩:=iC hE;exact⟨rfl,h.rdrO 0 hD,h.ch⟩
 have Q:=A;refine yp 5 [] (.a (h.cs 2 0 5) .z)<|yo (yQ (h.look (qd9 ((fr+g)) (f) (0) (0) (y) _)) fun u h=>?_);refine yz 8<|yc (rN (rY (evB ⟨(fr+g),f,y,0,0⟩))) (fun B=>?_) fun B=>?_
 ·have R:=B;refine ysr<|yq 1<|yo (zs h 1 fun u h=>?_);refine yz 3<|q9 (rS (yR2 [.agg #[iX 0,iX 0,oX,iX 0,iX 0],xF] (.a (h.cs 1 0 5) .z) ?_));unfold evR at hE;simp only[E0,b,d,k,if_neg v]at hE;rw[if_neg (fun hh=>absurd hh.2 (by simpa using R))]at hE;obtain⟨rfl,rfl⟩:=iC hE;exact⟨rfl,h.rdrO 0 hD,h.ch⟩
 have S:=B;refine yk<|ysr<|yp 1 [] (.a (h.cs 2 0 5) .z)<|yo (zs h 1 fun u h=>?_);refine yz 3<|q9 (yR2 [.agg #[iX (fr+g),iX f,.string y,iX 0,iX 0],.bool true] (.a (h.cs 1 0 5) .z) ?_);unfold evR at hE;simp only[E0,b,d,k,if_neg v]at hE;rw[if_pos ⟨by simpa using Q,by simpa using S⟩]at hE;obtain⟨rfl,rfl⟩:=iC hE;exact⟨rfl,h.rdrO 0 hD,h.ch⟩
theorem qh5 {c:Int}{l:List Int}(hc:0<=c/\c<=255)(h:qat l):qat (c::l):=fun x hx=>by
  rcases j9.1 hx with rfl|hx
  · exact hc
  · exact h x hx
theorem qbd (o:Option Nat)(n cap:Nat)(xs:List Int)(sg:Int)(a:Option Addr)(m c:Nat)(l:List Int)(w:World)(hO:Own w tU8 1 o n cap (u8s xs))(hr:Rd w a (u8s l))(hl:l.length=m)(hz0:a=none->c=0)(hby:qat l)(hsg:0<=sg/\sg<=255)(hne:∀ad,a=some ad-> ¬o=some ad.block)(hz:n+m+200<=1000000000):CP 76 [.slice (o.map at0) n cap,uX sg,.slice a m c].toArray w fun e w'=> ∃o' n' c',e= .returned (.slice (o'.map at0) n' c')/\Own w' tU8 1 o' n' c' (u8s (xs++qK sg l))/\(xs++qK sg l).length=n'/\App w w' o o':=by
 have h:=Sep.startO hO;refine yA Tryz.func76 rfl<|yx 1<|ysr<|yq 2<|yo (zB [uX sg] 5 1 h fun u s h=>?_);refine yq 4 ?_;have h:=h.boxO 1 1;refine yo (zA (a2:=a) (ys:=u8s l) 1 1 m c (1+m) (u8s (sg::l)) h (hr.ch h.ch fun ad e=>hne ad e) (qN _) (hz:=rfl) (hy:=by rw[qU];omega) (hn2:=hz0) fun u b f h t=>?_);have g:(sg::l).length=(1+m):=by have:=h.len1 1;rwa[hZ]at this
 refine yo (yC (qgU o n cap xs (b.map at0) (1+m) f (sg::l) _ (h.own 0) (h.ownRd' 1) g (by intro e;cases hq:b with|none=>exact((h.own 1).2.2.2.1 hq).2|some q=>rw[hq]at e;cases e) (h.neA 0 1) (qh5 hsg hby) (by omega)) ?_);rintro _ u ⟨i,d,j,rfl,k,v,p⟩;refine⟨_,rfl,?_⟩;have h:=h.appI 0 k p;have r:(xs++qK sg l).length=d:=by have:=h.len1 0;rwa[hZ]at this
 refine yz 7<|q9 (yR1 (.slice (i.map at0) d j) ?_);obtain⟨hO,hA⟩:=h.finA 0 (hp:=by have:=r;rw[hJ]at this;have:=qbW (sg::l);unfold qK at*;omega);exact⟨_,_,_,rfl,hO,by have:=hO.len1;rw[qU]at this;exact this,hA⟩
theorem qcV (b:Nat){sa:Option Addr}{sn sc:Nat}{eo:Option Nat}{ec:Nat}{ko:Option Nat}{kc:Nat}{kx:Nat->Option Addr×Nat×Nat}{r:Rc}(w:World)(hR:RcRd w b sa sn sc eo ec ko kc kx r):CP 25 [pX b].toArray w (RQ (iX (qa1 r.evs)) w):=by
 have c:=hR.en;have h:=Sep.nil w;refine yA Tryz.func25 rfl<|yx 1<|ys<|ysr<|yp 6 [] (.l (hR.ch h.ch).c1 .z)<|ye<|yc (rE (r.evs.length:Int) 0) (fun a=>?_) fun a=>?_
 ·have d:=a;refine yx 1<|q9 (rS (yR1 (iX 0) ?_));exact⟨by unfold qa1 qQ;rw[if_pos (show r.evs.length=0 by omega)],h.ch⟩
 have f:=a;obtain⟨eb,rfl⟩:=hR.eb (by omega);refine yk<|ys<|zD [] h fun u h=>yd (uL 0 14) [] (.l (hR.ch h.ch).c1 (.l (hR.ch h.ch).c1 (.q6 ((r.evs.length:Int)-1) (.i ((r.evs.length:Int)-1) (r.evs.length) (.l ((hR.ch h.ch).evx (x:=((r.evs.length:Int)-1)) (i:=(r.evs.length-1)) (by omega) (by omega) 0 _ rfl (by decide)) .z)))))<|yDe (nS ?_);refine q9 (yR1 (iX (ge r.evs (r.evs.length-1)).time) ?_);exact⟨by unfold qa1 qQ;rw[if_neg (show¬r.evs.length=0 by omega)],h.ch⟩
theorem qf6 (b:Nat){sa:Option Addr}{sn sc:Nat}{eo:Option Nat}{ec:Nat}{ko:Option Nat}{kc:Nat}{kx:Nat->Option Addr×Nat×Nat}{r:Rc}(w:World)(hR:RcRd w b sa sn sc eo ec ko kc kx r)(n:Nat)(hn:n<=r.evs.length):CP 81 [pX b,iX (n:Int)].toArray w (RQ (iX (qQ r.evs n)) w):=by
 have c:=hR.en;have h:=Sep.nil w;refine yA Tryz.func81 rfl<|yx 1<|ys<|yx 2<|yc (rE (n:Int) 0) (fun a=>?_) fun a=>?_
 ·have d:=a;refine yx 1<|q9 (rS (yR1 (iX 0) ?_));exact⟨by unfold qQ;rw[if_pos (show n=0 by omega)],h.ch⟩
 have f:=a;obtain⟨eb,rfl⟩:=hR.eb (by omega);refine yk<|ysr<|yp 10 [] (.l (hR.ch h.ch).c1 (.q6 ((n:Int)-1) (.i ((n:Int)-1) (r.evs.length) (.l ((hR.ch h.ch).evx (x:=((n:Int)-1)) (i:=(n-1)) (by omega) (by omega) 0 _ rfl (by decide)) .z))))<|ye<|q9 (yR1 (iX (ge r.evs (n-1)).time) ?_);exact⟨by unfold qQ;rw[if_neg (show¬n=0 by omega)],h.ch⟩
theorem qcW (k:Ky)(a:Option Addr)(m c:Nat)(w:World)(hr:Rd w a (u8s k.state))(hl:k.state.length=m)(hz0:a=none->c=0)(hz:m<=900000000)(hk:k.after<=100000000):CP 78 [.agg #[iX (k.after:Int),.slice a m c]].toArray w fun e w'=> ∃o n c,e= .returned (.slice (o.map at0) n c)/\Sep w (fun _=>False) w' [qa8 tU8 1 o n c (u8s (qR k))]:=by
 have h:=Sep.nil w;refine yA Tryz.func78 rfl<|ysr<|yo (zN [iX (k.after:Int),.slice a m c] 51 h fun u s h=>?_);refine yz 2<|ys<|zDC [7] [0] h fun u h=>ydF [0,1,2,5,6] [2] h.on (fun u h=>(.l (h.c 0 0) (.p (q:=InR .u64 (k.after:Int)) (qao (by omega) (by omega)) (.l (h.c 0 1) .z))))<|yH 3 (zB [.int .u64 (k.after:Int)] 110 1 h fun u t h=>?_);refine zHa h<|yH 4 (yC (qcF (xs:=[]) 1 [(k.after:Int)] (Own.nil _ _ _) (Rd.all (h.b 1)) (bC bN) (h.b 1).lt (fun b e=>by cases e)) ?_);rintro _ u ⟨v,d,x,rfl,f,y,g⟩;refine⟨_,rfl,?_⟩;have h:=h.app0 f g;have A:([]++qag [(k.after:Int)]).length=d:=by have:=h.len1 2;rwa[hZ]at this
 refine zHa h<|yK 7 (zA (a2:=a) (ys:=u8s (k.state)) 2 1 m c (d+m) (u8s ([]++qag [(k.after:Int)]++k.state)) h (hr.ch h.ch fun _ _ h=>h) (qN _) (hz:=(qaR _ _).symm) (hy:=(by rw[qU];omega)) (hn2:=hz0) fun u i j h B=>?_);have C:([]++qag [(k.after:Int)]++k.state).length=(d+m):=by have:=h.len1 2;rwa[hZ]at this
 refine q8<|yd [8] [] .z<|yDe (nS ?_);refine q9 (yR1 (.slice (i.map at0) (d+m) j) ?_);have r:([]++qag [(k.after:Int)]++k.state:List Int)=qR k:=by simp[qR,qag]
 rw[r]at h;exact⟨_,_,_,rfl,(h.ord [2]).eqv⟩
theorem qfE (b:Nat){sa:Option Addr}{sn sc:Nat}{eo:Option Nat}{ec:Nat}{ko:Option Nat}{kc:Nat}{kx:Nat->Option Addr×Nat×Nat}{r:Rc}(w:World)(hR:RcRd w b sa sn sc eo ec ko kc kx r)(hW:RcB r):CP 50 [pX b].toArray w fun e w'=> ∃o n c p m pc,e= .returned (.tuple #[.slice (o.map at0) n c,.slice (p.map at0) m pc])/\Sep w (fun _=>False) w' [qa8 tU8 1 o n c (u8s (qh r).out),qa8 3 1 p m pc ((qh r).pos.map (Value.int .i64))]:=by
 have aG:=hR.en;have h:=Sep.nil w;refine yA Tryz.func50 rfl<|yx 2<|ysr<|yp 4 [] (.l (hR.ch h.ch).c0 .z) ?_;have t:=qa2 83 (r.start);refine yo (yC (qbd none 0 0 [] 83 sa sn sc (r.start) _ (Own.nil _ _ _) (hR.st.ch h.ch fun _ _ h=>h) hR.sl hR.sz hW.st.1 (by decide) (fun _ _ e=>by cases e) (by have:=hW.st.2;have:=hR.sl;omega)) ?_);rintro _ u ⟨H,v,I,rfl,J,aH,ab⟩;refine⟨_,rfl,?_⟩;rw[iO]at J;have h:=h.app0 J ab;have aI:(qK 83 (r.start)).length=v:=by have:=h.len1 0;rwa[hZ]at this
 refine yz 6<|yx 1<|yx 1<|ys<|ysr<|yp 7 [] (.l (hR.ch h.ch).c1 (.q6 ((r.evs.length:Int)+1) .z))<|ye<|qa<|qV [0,4,5,6,18,19] (f':=[(0,pX b),(4,.slice (H.map at0) v I),(5,nX),(6,iX 0),(18,iX ((r.evs.length:Int)+1)),(19,iX 0)])<|qw (σ:=Nat×Nat×List Int×List Int×Option Nat×Nat×Nat×Option Nat×Nat×Nat) (fun⟨i,k,xs,ps,o,n,c,p,m,pc⟩=>[(0,pX b),(4,.slice (o.map at0) n c),(5,.slice (p.map at0) m pc),(6,iX (k:Int)),(18,iX ((r.evs.length:Int)+1)),(19,iX (i:Int))]) (fun⟨i,k,xs,ps,o,n,c,p,m,pc⟩ u=>qk r i=⟨xs,ps,k⟩/\i<=r.evs.length+1/\Sep w (fun _=>False) u [qa8 tU8 1 o n c (u8s xs),qa8 3 1 p m pc (ps.map (Value.int .i64))]) (fun⟨i,k,xs,ps,o,n,c,p,m,pc⟩=>r.evs.length+1-i) (0,0,qK 83 (r.start),[],H,v,I,none,0,0) rfl ?_ ?_
 ·exact⟨rfl,ir _,((h.own0 3 1).ord [0,1]).eqv⟩
 intro q u ac aJ g;obtain⟨i,k,xs,ps,o,n,c,p,m,pc⟩:=q;obtain⟨hP,hi,h⟩:=ac;have y:xs.length=n:=by have:=h.len1 0;rwa[hZ]at this
 have aK:ps.length=m:=by have:=h.len1 1;rwa[hZ]at this
 have aL:n<=100000000:=by have:=hW.ln i;rw[hP]at this;dsimp only at this;omega
 have K:=pl_k r i;rw[hP]at K;dsimp only at K;refine yx 1<|ys<|yc (rL (i:Int) ((r.evs.length:Int)+1)) (fun A=>?_) fun A=>?_
 ·have aM:=A;refine yk<|ys<|qa<|yx 2<|ys<|ysr<|yp 8 [] (.l (hR.ch h.ch).c2 .z)<|yw [29] (rL (k:Int) (r.keys.length:Int)) (fun B=>?_) fun B=>?_
  ·have aN:=B;obtain⟨kb,rfl⟩:=hR.kb (by omega);obtain⟨ad,aO,aP⟩:=hW.ks k (by omega);obtain⟨ae,af,ag⟩:=hR.kr k (by omega);refine yp 19 [] (.l (hR.ch h.ch).c2 (.i (k:Int) (r.keys.length) (.l ((hR.ch h.ch).kyx (x:=(k:Int)) (i:=k) (by omega) (by omega)).1 .z)))<|ye<|yc (rE (((gky r.keys k).after:Nat):Int) (i:Int)) (fun C=>?_) fun C=>?_
   ·have L:=C;refine ysr<|yq 3<|yo (zB [iX ((n:Nat):Int)] 3 1 h fun u aQ h=>?_);refine yo (zA 1 8 1 1 (m+1) ((ps++[(xs.length:Int)]).map (Value.int .i64)) h (Rd.all (h.b 2)) rfl (hz:=by rw[y];simp) fun u M N h aR=>?_);refine yz 6<|ysr<|yp 8 [] (.l (hR.ch h.ch).c2 (.i (k:Int) (r.keys.length) (.m ((hR.ch h.ch).kyx (x:=(k:Int)) (i:=k) (by omega) (by omega)).1 (.m ((hR.ch h.ch).kyx (x:=(k:Int)) (i:=k) (by omega) (by omega)).2 (.e .z)))))<|yo (yC (qcW (gky r.keys k) (kx k).1 (kx k).2.1 (kx k).2.2 _ (ae.ch h.ch fun _ _ h=>h) af ag (by omega) (by omega)) ?_);rintro _ u ⟨O,P,ah,rfl,ai⟩;refine⟨_,rfl,?_⟩;have h:=h.join ai;have Q:(qR (gky r.keys k)).length=P:=by have:=h.len1 3;rwa[hZ]at this
    have t:=qa2 75 (qR (gky r.keys k));refine yo (yC (qbd o n c (xs) 75 (O.map at0) P ah (qR (gky r.keys k)) _ (h.own 0) (h.ownRd' 3) Q (by intro e;cases hq:O with|none=>exact((h.own 3).2.2.2.1 hq).2|some q=>rw[hq]at e;cases e) (ql (qp (by omega)) ad) (by decide) (h.neA 0 3) (by have:=Q;have:=qd8 (gky r.keys k);omega)) ?_);rintro _ u ⟨R,D,S,rfl,aj,aS,ak⟩;refine⟨_,rfl,?_⟩;have h:=h.appI 0 aj ak;have al:(xs++qK 75 (qR (gky r.keys k))).length=D:=by have:=h.len1 0;rwa[hZ]at this
    refine yz 11<|q7<|yp 3 [] (.q6 ((k:Int)+1) .z)<|ye<|ysr<|yp 7 [] (.l (hR.ch h.ch).c1 .z)<|ye<|yc (rL (i:Int) (r.evs.length:Int)) (fun E=>?_) fun E=>?_
    ·have aT:=E;obtain⟨eb,rfl⟩:=hR.eb (by omega);obtain⟨d,f,j⟩:=hW.ev i (by omega);have T:=qdF (fr:=qQ r.evs i) d;have s:=qdZ d f;refine zDC [11,12] [0,1,2,3] h fun u h=>ydF [0,1,2,4,5,6,7,8,9,10] [] h.on (fun u h=>(.l (hR.ch h.ch).c1 (.i (i:Int) (r.evs.length) (.m ((hR.ch h.ch).evx (x:=(i:Int)) (i:=i) (by omega) (by omega) 0 _ rfl (by decide)) (.m ((hR.ch h.ch).evx (x:=(i:Int)) (i:=i) (by omega) (by omega) 1 _ rfl (by decide)) (.m ((hR.ch h.ch).evx (x:=(i:Int)) (i:=i) (by omega) (by omega) 2 _ rfl (by decide)) (.m ((hR.ch h.ch).evx (x:=(i:Int)) (i:=i) (by omega) (by omega) 3 _ rfl (by decide)) (.m ((hR.ch h.ch).evx (x:=(i:Int)) (i:=i) (by omega) (by omega) 4 _ rfl (by decide)) (.e .z)))))))))<|yH 3 (yQ (h.look (qf6 b _ (hR.ch h.ch) i (by omega))) fun u h=>?_);refine zH h<|yK 11 (yC (qf5 none 0 0 [] (qQ r.evs i) _ _ _ _ _ _ (Own.nil _ _ _) d ⟨f,j⟩ (by omega)) ?_);rintro _ u ⟨U,V,am,rfl,W,aU,an⟩;refine⟨_,rfl,?_⟩;rw[iO]at W;have h:=h.app0 W an;have X:(evI (qQ r.evs i) (ge r.evs i)).length=V:=by have:=h.len1 4;rwa[hZ]at this
     refine q8 ?_;have t:=qa2 69 (evI (qQ r.evs i) (ge r.evs i));refine yK 12 (yC (qbd R D S (xs++qK 75 (qR (gky r.keys k))) 69 (U.map at0) V am (evI (qQ r.evs i) (ge r.evs i)) _ (h.own 0) (h.ownRd' 4) X (by intro e;cases hq:U with|none=>exact((h.own 4).2.2.2.1 hq).2|some q=>rw[hq]at e;cases e) s (by decide) (h.neA 0 4) (by have:=X;have:=al;rw[hJ]at this;have:=qa2 75 (qR (gky r.keys k));have:=qd8 (gky r.keys k);omega)) ?_);rintro _ u ⟨ao,Y,ap,rfl,aq,aV,ar⟩;refine⟨_,rfl,?_⟩;have h:=h.appI 0 aq ar;have aW:(xs++qK 75 (qR (gky r.keys k))++qK 69 (evI (qQ r.evs i) (ge r.evs i))).length=Y:=by have:=h.len1 0;rwa[hZ]at this
     refine q8<|yd [13] [] .z<|yDe (nB (nS ?_));refine q7<|yp 2 [] (.q6 ((i:Int)+1) .z)<|yE (fun a ha=>g (i+1,k+1,xs++qK 75 (qR (gky r.keys k))++qK 69 (evI (qQ r.evs i) (ge r.evs i)),(ps++[(xs.length:Int)]),ao,Y,ap,M,(m+1),N) _ ⟨qfC hP (qq5 (by omega) L) (qq6 (by omega)),by omega,h.take 2⟩ (by show r.evs.length+1-(i+1)<r.evs.length+1-i;omega) a (ha.kp [0,4,5,6,18,19]))
    have aX:=E;refine qo (nB (nS ?_));refine q7<|yp 2 [] (.q6 ((i:Int)+1) .z)<|yE (fun a ha=>g (i+1,k+1,xs++qK 75 (qR (gky r.keys k)),(ps++[(xs.length:Int)]),R,D,S,M,(m+1),N) _ ⟨qfC hP (qq5 (by omega) L) (ev_no (by omega)),by omega,h.take 2⟩ (by show r.evs.length+1-(i+1)<r.evs.length+1-i;omega) a (ha.kp [0,4,5,6,18,19]))
   have Z:=C;refine yk<|ysr<|yp 7 [] (.l (hR.ch h.ch).c1 .z)<|ye<|yc (rL (i:Int) (r.evs.length:Int)) (fun F=>?_) fun F=>?_
   ·have aY:=F;obtain⟨eb,rfl⟩:=hR.eb (by omega);obtain⟨d,f,j⟩:=hW.ev i (by omega);have T:=qdF (fr:=qQ r.evs i) d;have s:=qdZ d f;refine zDC [11,12] [0,1] h fun u h=>ydF [0,1,2,4,5,6,7,8,9,10] [] h.on (fun u h=>(.l (hR.ch h.ch).c1 (.i (i:Int) (r.evs.length) (.m ((hR.ch h.ch).evx (x:=(i:Int)) (i:=i) (by omega) (by omega) 0 _ rfl (by decide)) (.m ((hR.ch h.ch).evx (x:=(i:Int)) (i:=i) (by omega) (by omega) 1 _ rfl (by decide)) (.m ((hR.ch h.ch).evx (x:=(i:Int)) (i:=i) (by omega) (by omega) 2 _ rfl (by decide)) (.m ((hR.ch h.ch).evx (x:=(i:Int)) (i:=i) (by omega) (by omega) 3 _ rfl (by decide)) (.m ((hR.ch h.ch).evx (x:=(i:Int)) (i:=i) (by omega) (by omega) 4 _ rfl (by decide)) (.e .z)))))))))<|yH 3 (yQ (h.look (qf6 b _ (hR.ch h.ch) i (by omega))) fun u h=>?_);refine zH h<|yK 11 (yC (qf5 none 0 0 [] (qQ r.evs i) _ _ _ _ _ _ (Own.nil _ _ _) d ⟨f,j⟩ (by omega)) ?_);rintro _ u ⟨a0,a1,au,rfl,a2,aZ,av⟩;refine⟨_,rfl,?_⟩;rw[iO]at a2;have h:=h.app0 a2 av;have a3:(evI (qQ r.evs i) (ge r.evs i)).length=a1:=by have:=h.len1 2;rwa[hZ]at this
    refine q8 ?_;have t:=qa2 69 (evI (qQ r.evs i) (ge r.evs i));refine yK 12 (yC (qbd o n c (xs) 69 (a0.map at0) a1 au (evI (qQ r.evs i) (ge r.evs i)) _ (h.own 0) (h.ownRd' 2) a3 (by intro e;cases hq:a0 with|none=>exact((h.own 2).2.2.2.1 hq).2|some q=>rw[hq]at e;cases e) s (by decide) (h.neA 0 2) (by have:=a3;have:=y;skip;omega)) ?_);rintro _ u ⟨aw,a4,ax,rfl,ay,b0,az⟩;refine⟨_,rfl,?_⟩;have h:=h.appI 0 ay az;have b1:(xs++qK 69 (evI (qQ r.evs i) (ge r.evs i))).length=a4:=by have:=h.len1 0;rwa[hZ]at this
    refine q8<|yd [13] [] .z<|yDe (nB (nS ?_));refine q7<|yp 2 [] (.q6 ((i:Int)+1) .z)<|yE (fun a ha=>g (i+1,k,xs++qK 69 (evI (qQ r.evs i) (ge r.evs i)),ps,aw,a4,ax,p,m,pc) _ ⟨qfC hP (qmv fun hh=>absurd hh.2 Z) (qq6 (by omega)),by omega,h.take 2⟩ (by show r.evs.length+1-(i+1)<r.evs.length+1-i;omega) a (ha.kp [0,4,5,6,18,19]))
   have b2:=F;refine qo (nB (nS ?_));refine q7<|yp 2 [] (.q6 ((i:Int)+1) .z)<|yE (fun a ha=>g (i+1,k,xs,ps,o,n,c,p,m,pc) _ ⟨qfC hP (qmv fun hh=>absurd hh.2 Z) (ev_no (by omega)),by omega,h.take 2⟩ (by show r.evs.length+1-(i+1)<r.evs.length+1-i;omega) a (ha.kp [0,4,5,6,18,19]))
  have a5:=B;refine yz 19<|ycf<|yk<|ysr<|yp 7 [] (.l (hR.ch h.ch).c1 .z)<|ye<|yc (rL (i:Int) (r.evs.length:Int)) (fun G=>?_) fun G=>?_
  ·have b3:=G;obtain⟨eb,rfl⟩:=hR.eb (by omega);obtain⟨d,f,j⟩:=hW.ev i (by omega);have T:=qdF (fr:=qQ r.evs i) d;have s:=qdZ d f;refine zDC [11,12] [0,1] h fun u h=>ydF [0,1,2,4,5,6,7,8,9,10] [] h.on (fun u h=>(.l (hR.ch h.ch).c1 (.i (i:Int) (r.evs.length) (.m ((hR.ch h.ch).evx (x:=(i:Int)) (i:=i) (by omega) (by omega) 0 _ rfl (by decide)) (.m ((hR.ch h.ch).evx (x:=(i:Int)) (i:=i) (by omega) (by omega) 1 _ rfl (by decide)) (.m ((hR.ch h.ch).evx (x:=(i:Int)) (i:=i) (by omega) (by omega) 2 _ rfl (by decide)) (.m ((hR.ch h.ch).evx (x:=(i:Int)) (i:=i) (by omega) (by omega) 3 _ rfl (by decide)) (.m ((hR.ch h.ch).evx (x:=(i:Int)) (i:=i) (by omega) (by omega) 4 _ rfl (by decide)) (.e .z)))))))))<|yH 3 (yQ (h.look (qf6 b _ (hR.ch h.ch) i (by omega))) fun u h=>?_);refine zH h<|yK 11 (yC (qf5 none 0 0 [] (qQ r.evs i) _ _ _ _ _ _ (Own.nil _ _ _) d ⟨f,j⟩ (by omega)) ?_);rintro _ u ⟨a6,a7,aA,rfl,a8,b4,aB⟩;refine⟨_,rfl,?_⟩;rw[iO]at a8;have h:=h.app0 a8 aB;have a9:(evI (qQ r.evs i) (ge r.evs i)).length=a7:=by have:=h.len1 2;rwa[hZ]at this
   refine q8 ?_;have t:=qa2 69 (evI (qQ r.evs i) (ge r.evs i));refine yK 12 (yC (qbd o n c (xs) 69 (a6.map at0) a7 aA (evI (qQ r.evs i) (ge r.evs i)) _ (h.own 0) (h.ownRd' 2) a9 (by intro e;cases hq:a6 with|none=>exact((h.own 2).2.2.2.1 hq).2|some q=>rw[hq]at e;cases e) s (by decide) (h.neA 0 2) (by have:=a9;have:=y;skip;omega)) ?_);rintro _ u ⟨aC,aa,aD,rfl,aE,b5,aF⟩;refine⟨_,rfl,?_⟩;have h:=h.appI 0 aE aF;have b6:(xs++qK 69 (evI (qQ r.evs i) (ge r.evs i))).length=aa:=by have:=h.len1 0;rwa[hZ]at this
   refine q8<|yd [13] [] .z<|yDe (nB (nS ?_));refine q7<|yp 2 [] (.q6 ((i:Int)+1) .z)<|yE (fun a ha=>g (i+1,k,xs++qK 69 (evI (qQ r.evs i) (ge r.evs i)),ps,aC,aa,aD,p,m,pc) _ ⟨qfC hP (qmv fun hh=>a5 (by have:=hh.1;omega)) (qq6 (by omega)),by omega,h.take 2⟩ (by show r.evs.length+1-(i+1)<r.evs.length+1-i;omega) a (ha.kp [0,4,5,6,18,19]))
  have b7:=G;refine qo (nB (nS ?_));refine q7<|yp 2 [] (.q6 ((i:Int)+1) .z)<|yE (fun a ha=>g (i+1,k,xs,ps,o,n,c,p,m,pc) _ ⟨qfC hP (qmv fun hh=>a5 (by have:=hh.1;omega)) (ev_no (by omega)),by omega,h.take 2⟩ (by show r.evs.length+1-(i+1)<r.evs.length+1-i;omega) a (ha.kp [0,4,5,6,18,19]))
 have b8:=A;refine qm (eS (qd (qb (nS ?_))));refine yx 4<|q9 (yR2 [.slice (o.map at0) n c,.slice (p.map at0) m pc] .z ?_);obtain rfl:i=r.evs.length+1:=by omega
 have hP:qh r=⟨xs,ps,k⟩:=hP;rw[hP];exact⟨_,_,_,_,_,_,rfl,(h.ord [0,1]).eqv⟩
theorem qi5 (b:Nat){sa:Option Addr}{sn sc:Nat}{eo:Option Nat}{ec:Nat}{ko:Option Nat}{kc:Nat}{kx:Nat->Option Addr×Nat×Nat}{r:Rc}(w:World)(hR:RcRd w b sa sn sc eo ec ko kc kx r)(hW:RcB r)(N:Int)(pa:Option Nat)(m pc:Nat)(ps:List Int)(hr:Rd w (pa.map at0) (ps.map (Value.int .i64)))(hpl:ps.length=m)(hn:0<=N/\N<=100000000)(hp:∀x∈ps,0<=x/\x<=100000000)(hk:m<=r.keys.length)(ht:∀j,j<m->(gky r.keys j).after<=r.evs.length/\True):CP 51 [pX b,iX N,.slice (pa.map at0) m pc].toArray w fun e w'=> ∃o n c,e= .returned (.slice (o.map at0) n c)/\Sep w (fun _=>False) w' [qa8 tU8 1 o n c (u8s (qaG r N ps))]:=by
 have E:=hR.en;have h:=Sep.nil w;refine yA Tryz.func51 rfl<|yx 1<|ysr<|yp 3 [2] (.p (q:=InR .u64 (m:Int)) (qao (by omega) (by omega)) .z)<|yo (zB [.int .u64 (m:Int)] 110 1 h fun u a0 h=>?_);refine yo (yC (qcF (xs:=[]) 1 [(m:Int)] (Own.nil _ _ _) (Rd.all (h.b 0)) (bC bN) (h.b 0).lt (fun b e=>by cases e)) ?_);rintro _ u ⟨s,f,t,rfl,v,a1,F⟩;refine⟨_,rfl,?_⟩;rw[iO]at v;have h:=h.app0 v F;have a2:(qag [(m:Int)]).length=f:=by have:=h.len1 1;rwa[hZ]at this
 refine yz 6<|ys<|yx 3<|qa ?_;rw[idx_zero r hpl]at h;refine qV [0,1,7,16,17,18] (f':=[(0,pX b),(1,iX N),(7,.slice (s.map at0) f t),(16,.slice (pa.map at0) m pc),(17,iX (m:Int)),(18,iX 0)])<|qw (σ:=Nat×Option Nat×Nat×Nat) (fun⟨j,o,d,c⟩=>[(0,pX b),(1,iX N),(7,.slice (o.map at0) d c),(16,.slice (pa.map at0) m pc),(17,iX (m:Int)),(18,iX ((j:Nat):Int))]) (fun⟨j,o,d,c⟩ u=>j<=m/\Sep w (fun _=>False) u [qa8 tU8 1 o d c (u8s (qfW r ps j))]) (fun⟨j,o,d,c⟩=>m-j) (0,s,f,t) rfl ?_ ?_
 ·exact⟨ir _,(h.ord [1]).eqv⟩
 intro q u G a3 H;obtain⟨j,o,d,c⟩:=q;obtain⟨hj,h⟩:=G;have I:(qfW r ps j).length=d:=by have:=h.len1 0;rwa[hZ]at this
 have a4:=qfB r ps j;refine yx 1<|ys<|yc (rL ((j:Nat):Int) (m:Int)) (fun g=>?_) fun g=>?_
 ·have a5:=g;obtain⟨pb,rfl⟩:∃pb,pa=some pb:=by cases pa with|some b=>exact⟨b,rfl⟩|none=>have J:=ki.1 (hr.1 rfl);exact absurd (show([]:List Int).length=m by rw[<-J];exact hpl) (by simp only[iP];omega)
  obtain⟨kb,rfl⟩:=hR.kb (by omega);obtain⟨y,a6⟩:=ht j (by omega);have a7:=hW.tm y;have a8:=hp _ (qd6 (l:=ps) (k:=j) (by omega));have a9:=(hW.ks j (by omega)).2.2;refine yk<|ys<|qa<|ysr<|yp 5 [] (.i ((j:Nat):Int) (m) (.l (o:=(0+(((j:Nat):Int)).toNat*1)) (qci (hr.ch h.ch fun _ _ h=>h) (k:=j) (by omega)) .z))<|ye<|ysr<|yp 9 [] (.l (hR.ch h.ch).c2 (.i ((j:Nat):Int) (r.keys.length) (.l ((hR.ch h.ch).kyx (x:=((j:Nat):Int)) (i:=j) (by omega) (by omega)).1 .z)))<|ye<|q7<|yp 5 [2] (.p (q:=InR .u64 (((gky r.keys j).after:Nat):Int)) (qao (by omega) (by omega)) .z)<|yo (yQ (h.look (qf6 b _ (hR.ch h.ch) (gky r.keys j).after y)) fun u h=>?_);refine yp 9 [6,8] (.p (q:=InR .u64 (qQ r.evs (gky r.keys j).after)) (qao (by omega) (by omega)) (.p (q:=InR .u64 (ps.getD j 0)) (qao (by omega) (by omega)) .z))<|yo (zB [.int .u64 (((gky r.keys j).after:Nat):Int),.int .u64 (qQ r.evs (gky r.keys j).after),.int .u64 (ps.getD j 0)] 110 3 h fun u b24 h=>?_);refine yo (yC (qcF (xs:=qfW r ps j) 3 [(((gky r.keys j).after:Nat):Int),(qQ r.evs (gky r.keys j).after),(ps.getD j 0)] (h.own 0) (Rd.all (h.b 1)) (bC (bC (bC bN))) (h.b 1).lt (h.neo 0 1)) ?_);rintro _ u ⟨K,A,L,rfl,M,aa,O⟩;refine⟨_,rfl,?_⟩;have h:=h.appI 0 M O;have ab:(qfW r ps j++qag [(((gky r.keys j).after:Nat):Int),(qQ r.evs (gky r.keys j).after),(ps.getD j 0)]).length=A:=by have:=h.len1 0;rwa[hZ]at this
  refine yq 12<|yE (nB (nS ?_));refine q7<|yp 2 [] (.q6 (((j:Nat):Int)+1) .z) ?_;rw[idx_next]at h;refine yE (fun a ha=>H (j+1,K,A,L) _ ⟨by omega,h.take 1⟩ (by show m-(j+1)<m-j;omega) a (ha.kp [0,1,7,16,17,18]))
 have ac:=g;obtain rfl:m=j:=by omega
 have P:=qgi hW hp (by omega) E.2 (fun q hq=>⟨(ht q (by omega)).1,(hW.tm (ht q (by omega)).1).2⟩) m (by omega);refine qm (eS (qd (qb (nS ?_))));refine ysr<|yq 1 ?_;have ae:=qa2 73 (qfW r ps m);refine yo (yC (qbd none 0 0 [] 73 (o.map at0) d c (qfW r ps m) _ (Own.nil _ _ _) (h.ownRd' 0) I (by intro e;cases hq:o with|none=>exact((h.own 0).2.2.2.1 hq).2|some q=>rw[hq]at e;cases e) P (by decide) (fun _ _ e=>by cases e) (by skip;omega)) ?_);rintro _ u ⟨Q,B,R,rfl,C,af,S⟩;refine⟨_,rfl,?_⟩;rw[iO]at C;have h:=h.app0 C S;have T:(qK 73 (qfW r ps m)).length=B:=by have:=h.len1 1;rwa[hZ]at this
 refine yp 13 [] (.p (q:=0<=(8:Int)) (by omega) (.p (q:=0<=(16:Int)) (by omega) (.p (q:=0<=(24:Int)) (by omega) .z)))<|yo (zB [uX (IntKind.wrap .u8 N),uX (IntKind.wrap .u8 (Int.fdiv N (2^min (8:Int).toNat (IntKind.bits .i64)))),uX (IntKind.wrap .u8 (Int.fdiv N (2^min (16:Int).toNat (IntKind.bits .i64)))),uX (IntKind.wrap .u8 (Int.fdiv N (2^min (24:Int).toNat (IntKind.bits .i64))))] 5 4 h fun u U h=>?_);refine yo (yC (qbd Q B R (qK 73 (qfW r ps m)) 70 (some ⟨U,0,none⟩) 4 4 [(IntKind.wrap .u8 N),(IntKind.wrap .u8 (Int.fdiv N (2^min (8:Int).toNat (IntKind.bits .i64)))),(IntKind.wrap .u8 (Int.fdiv N (2^min (16:Int).toNat (IntKind.bits .i64)))),(IntKind.wrap .u8 (Int.fdiv N (2^min (24:Int).toNat (IntKind.bits .i64))))] _ (h.own 1) (Rd.all (h.b 2)) rfl (fun e=>by cases e) (fun x hx=>by simp only[j9,jf,or_false]at hx;rcases hx with rfl|rfl|rfl|rfl<;>exact qge _) (by decide) (fun ad e hx=>by cases e;exact h.neo 1 2 (by decide) (by rfl) (by rfl) _ hx rfl) (by have:=T;omega)) ?_);rintro _ u ⟨V,D,W,rfl,X,ag,Y⟩;refine⟨_,rfl,?_⟩;have h:=h.appI 1 X Y;have ah:(qK 73 (qfW r ps m)++qK 70 [(IntKind.wrap .u8 N),(IntKind.wrap .u8 (Int.fdiv N (2^min (8:Int).toNat (IntKind.bits .i64)))),(IntKind.wrap .u8 (Int.fdiv N (2^min (16:Int).toNat (IntKind.bits .i64)))),(IntKind.wrap .u8 (Int.fdiv N (2^min (24:Int).toNat (IntKind.bits .i64))))]).length=D:=by have:=h.len1 1;rwa[hZ]at this
 refine yz 16<|q9 (yR1 (.slice (V.map at0) D W) ?_);have Z:(qK 73 (qfW r ps m)++qK 70 [(IntKind.wrap .u8 N),(IntKind.wrap .u8 (Int.fdiv N (2^min (8:Int).toNat (IntKind.bits .i64)))),(IntKind.wrap .u8 (Int.fdiv N (2^min (16:Int).toNat (IntKind.bits .i64)))),(IntKind.wrap .u8 (Int.fdiv N (2^min (24:Int).toNat (IntKind.bits .i64))))]:List Int)=qaG r N ps:=by unfold qaG;rw[hpl];rfl
 rw[Z]at h;exact⟨_,_,_,rfl,(h.ord [1]).eqv⟩
theorem qdI (b:Nat){sa:Option Addr}{sn sc:Nat}{eo:Option Nat}{ec:Nat}{ko:Option Nat}{kc:Nat}{kx:Nat->Option Addr×Nat×Nat}{r:Rc}(w:World)(hR:RcRd w b sa sn sc eo ec ko kc kx r)(hW:RcB r):CP 20 [pX b,.bool true].toArray w fun e w'=> ∃o n c,e= .returned (.slice (o.map at0) n c)/\Sep w (fun _=>False) w' [qa8 tU8 1 o n c (u8s (qaK r true))]:=by
 have D:=hR.en;have h:=Sep.nil w;refine yA Tryz.func20 rfl<|yx 1<|ysr<|yq 1<|yo (yC (qfE b _ (hR.ch h.ch) hW) ?_);rintro _ u ⟨E,a,F,l,f,m,rfl,p⟩;refine⟨_,rfl,?_⟩;have h:=h.join p;have s:((qh r).out).length=a:=by have:=h.len1 0;rwa[hZ]at this
 have t:(qh r).pos.length=f:=by have:=h.len1 1;rwa[hZ]at this
 have G:(qh r).pos.length=(qh r).k/\_:=pl_k r (r.evs.length+1);have v:(qh r).k<=r.keys.length/\ ∀j,j<(qh r).k->_:=pl_a r (r.evs.length+1) (iE _);have x:=pl_p hW (r.evs.length+1);have H:(qh r).out.length<=100000000:=hW.ln (r.evs.length+1);refine yz 7<|ys<|yx 1<|yct<|q7<|yq 5<|yo (yC (qi5 b _ (hR.ch h.ch) hW (a:Int) l f m _ (h.ownRd' 1) t (by omega) x (by omega) (fun j hj=>⟨v.2 j (by omega),trivial⟩)) ?_);rintro _ u ⟨g,d,y,rfl,z⟩;refine⟨_,rfl,?_⟩;have h:=h.join z;have i:(qaG r (a:Int) (qh r).pos).length=d:=by have:=h.len1 2;rwa[hZ]at this
 have I:=qf4 r (a:Int) (qh r).pos;have J:=i;refine yo (zA (a2:=(g.map at0)) (ys:=u8s (qaG r (a:Int) (qh r).pos)) 0 1 d y (a+d) (u8s ((qh r).out++qaG r (a:Int) (qh r).pos)) h (h.ownRd' 2) (qN _) (hz:=(qaR _ _).symm) (hy:=(by rw[qU];have:=i;omega)) (hn2:=(by intro e;cases hq:g with|none=>exact((h.own 2).2.2.2.1 hq).2|some q=>rw[hq]at e;cases e)) fun u A B h K=>?_);have L:((qh r).out++qaG r (a:Int) (qh r).pos).length=(a+d):=by have:=h.len1 0;rwa[hZ]at this
 refine yz 8<|yx 2<|q9 (yR1 (.slice (A.map at0) (a+d) B) ?_);have C:((qh r).out++qaG r (a:Int) (qh r).pos:List Int)=qaK r true:=by unfold qaK;rw[if_pos rfl,s]
 rw[C]at h;exact⟨_,_,_,rfl,(h.ord [0]).eqv⟩
theorem qf7 (b:Nat){sa:Option Addr}{sn sc:Nat}{eo:Option Nat}{ec:Nat}{ko:Option Nat}{kc:Nat}{kx:Nat->Option Addr×Nat×Nat}{r:Rc}(w:World)(hR:RcRd w b sa sn sc eo ec ko kc kx r)(hW:RcB r):CP 20 [pX b,xF].toArray w fun e w'=> ∃o n c,e= .returned (.slice (o.map at0) n c)/\Sep w (fun _=>False) w' [qa8 tU8 1 o n c (u8s (qaK r false))]:=by
 have m:=hR.en;have h:=Sep.nil w;refine yA Tryz.func20 rfl<|yx 1<|ysr<|yq 1<|yo (yC (qfE b _ (hR.ch h.ch) hW) ?_);rintro _ u ⟨d,a,f,p,g,q,rfl,i⟩;refine⟨_,rfl,?_⟩;have h:=h.join i;have s:((qh r).out).length=a:=by have:=h.len1 0;rwa[hZ]at this
 have t:(qh r).pos.length=g:=by have:=h.len1 1;rwa[hZ]at this
 have v:(qh r).pos.length=(qh r).k/\_:=pl_k r (r.evs.length+1);have x:(qh r).k<=r.keys.length/\ ∀j,j<(qh r).k->_:=pl_a r (r.evs.length+1) (iE _);have y:=pl_p hW (r.evs.length+1);have z:(qh r).out.length<=100000000:=hW.ln (r.evs.length+1);refine yz 7<|ys<|yx 1<|ycf<|yk<|yx 2<|q9 (yR1 (.slice (d.map at0) a f) ?_);have l:((qh r).out:List Int)=qaK r false:=by unfold qaK;rw[if_neg jH]
 rw[l]at h;exact⟨_,_,_,rfl,(h.ord [0]).eqv⟩
theorem qem {sr rv D:Nat}{s0 s1:RS}{fine ok:Bool}{c:Cur}{W H:Int}{w:World}(hS:SrIn w sr rv D fine s0)(hC:qj7 W H s0=(c,ok,s1))(hW:1<=W/\W<=60)(hH:1<=H/\H<=60):CP 89 [pX sr,iX W,iX H].toArray w fun e w'=>
 e= .returned (.agg #[iX c.x,iX c.y,.bool c.late,.bool c.sty.bold,.bool c.sty.under,.bool c.sty.turned,iX c.sty.fore,iX c.sty.back])/\SrIn w' sr rv D (fine&&ok) s1/\Ch (srB sr rv) w w':=by
 obtain⟨g,u1,E⟩:∃x s',qP W s0=(x,s'):=⟨_,_,rfl⟩
 obtain⟨n,u2,v⟩:∃x s',qP H u1=(x,s'):=⟨_,_,rfl⟩
 obtain⟨k,u3,p⟩:∃x s',qP 2 u2=(x,s'):=⟨_,_,rfl⟩
 have aE:=qaa (lim:=W) (s:=s0);have aF:=qaa (lim:=H) (s:=u1);have aG:=qaa (lim:=2) (s:=u2);rw[E]at aE;rw[v]at aF;rw[p]at aG;dsimp only at aE aF aG;refine yA Tryz.func89 rfl<|ysr<|yo (yN [iX 0,iX 0,xF,xF,xF,xF,iX 0,iX 0] 86 fun aT d aU dP aV ao=>?_);have aW:Ch (srB sr rv) w aT:=zt (Ch.refl (srB sr rv) w) ao eZ;have f:w.heap.size<=d:=by rw[aU];exact zzs (Ch.refl (srB sr rv) w)
 have aX:=hS.blk.ch ao id;have aY:=hS.rd.ch ao id id;refine ye<|qe1 (σ:=Nat) (fun m=>[(0,pX sr),(1,iX W),(6,pX d),(7,pX m)]) (fun m u=>Blk u d [iX 0,iX 0,xF,xF,xF,xF,iX 0,iX 0] 86/\Blk u m [iX g,iX n,.bool ((k:Int)==1),xF,xF,xF,iX 0,iX 0] 86/\Blk u sr [pX rv,.bool fine] tSr/\RdrAt u rv D u3/\Ch (srB sr rv) w u/\w.heap.size<=m/\ ¬m=d) (fun dQ a0=>?_) (fun gs u22 aH=>?_)
 ·refine qaI (· =rv) [16,20] (by kernel_rfl) (fun aZ dR a1=>?_);have ap:Ch (srB sr rv) w aZ:=zt aW a1 eZ;have L:=aX.ch a1 id;have aI:=aY.ch a1 id id;have a2:=aV.ch a1 id;refine ydC [0,1,2,3,4,6,7,8,9,10,12,13,14,15] [] (fun u hu=>(.l (qg hu (L.c 0) hS.ne) (.l (qg hu (L.c 0) hS.ne) (.l (qg hu (L.c 0) hS.ne) .z))))<|qas 5 19 (by kernel_rfl) (by decide) ?_ ?_
  ·refine qa4 5 _ (by kernel_rfl) rfl (yQ (qa3 (lim:=W) aI E (by omega)) ?_);rintro b0 ⟨aJ,a3⟩;have aq:Ch (srB sr rv) w b0:=zt ap a3 (fun _ _ h=> .inr h);have aK:=L.ch a3 hS.ne;have a4:=a2.ch a3 (fun(h:d=rv)=>by have:=f;have:=hS.rd.lt;omega);refine qA a3 iZ<|qas 11 19 (by kernel_rfl) (by decide) ?_ ?_
   ·refine qa4 11 _ (by kernel_rfl) rfl (yQ (qa3 (lim:=H) aJ v (by omega)) ?_);rintro b1 ⟨aL,a5⟩;have ar:Ch (srB sr rv) w b1:=zt aq a5 (fun _ _ h=> .inr h);have aM:=aK.ch a5 hS.ne;have a6:=a4.ch a5 (fun(h:d=rv)=>by have:=f;have:=hS.rd.lt;omega);refine qA a5 iZ<|qas 16 19 (by kernel_rfl) (by decide) ?_ ?_
    ·refine qav 16 _ (by kernel_rfl) rfl (yQ (qa3 (lim:=2) aL p (by omega)) ?_);rintro b2 ⟨b3,au⟩;have aN:Ch (srB sr rv) w b2:=zt ar au (fun _ _ h=> .inr h);have b4:=aM.ch au hS.ne;have av:=a6.ch au (fun(h:d=rv)=>by have:=f;have:=hS.rd.lt;omega);refine qjy (B:=fun j=>j=rv)<|ydC [17,18] [] (fun u hu=> .z)<|yH 19 (yN [iX 0,iX 0,xF,xF,xF,xF,iX 0,iX 0] 86 fun b5 F b6 dS b8 M=>?_);have b9:Ch (srB sr rv) w b5:=zt aN M eZ;have N:=zn b6 aN;have ba:=b4.ch M id;have bb:=av.ch M id;have bc:=b3.ch M id id;refine qA M eZ<|yK 20 (yT [iX g,iX n,.bool ((k:Int)==1),xF,xF,xF,iX 0,iX 0] b8 fun bd bf a7=>?_);have bg:Ch (srB sr rv) w bd:=zt b9 a7 (fun i hi (h:i=F)=>by have:=N;omega);have bh:=ba.ch a7 (fun(h:sr=F)=>by have:=N;have:=hS.blk.lt;omega);have bi:=bb.ch a7 (fun(h:d=F)=>by have:=av.lt;omega);have bj:=bc.ch a7 (fun(h:rv=F)=>by have:=N;have:=hS.rd.lt;omega) (fun(h:D=F)=>by have:=N;have:=hS.rd.dlt;omega);refine q8<|yDe (fun a ha=>a0 F _ ⟨bi,bf,bh,bj,bg,N,(fun(h:F=d)=>by have:=av.lt;omega)⟩ a (ha.kp [0,1,6,7]))
    refine qa4 19 _ (by kernel_rfl) rfl (yN [iX 0,iX 0,xF,xF,xF,xF,iX 0,iX 0] 86 fun bk A bl dT bm O=>?_);have bn:Ch (srB sr rv) w bk:=zt ar O eZ;have I:=zn bl ar;have bo:=aM.ch O id;have bp:=a6.ch O id;have bq:=aL.ch O id id;refine qA O eZ<|yK 16 (yQ (qa3 (lim:=2) bq p (by omega)) ?_);rintro br ⟨bs,a8⟩;have bt:Ch (srB sr rv) w br:=zt bn a8 (fun _ _ h=> .inr h);have bu:=bo.ch a8 hS.ne;have bv:=bp.ch a8 (fun(h:d=rv)=>by have:=f;have:=hS.rd.lt;omega);have bw:=bm.ch a8 (fun(h:A=rv)=>by have:=I;have:=hS.rd.lt;omega);refine q8<|yd [17,18] [] .z<|yK 20 (yT [iX g,iX n,.bool ((k:Int)==1),xF,xF,xF,iX 0,iX 0] bw fun bx bz a9=>?_);have bA:Ch (srB sr rv) w bx:=zt bt a9 (fun i hi (h:i=A)=>by have:=I;omega);have bB:=bu.ch a9 (fun(h:sr=A)=>by have:=I;have:=hS.blk.lt;omega);have bC:=bv.ch a9 (fun(h:d=A)=>by have:=a6.lt;omega);have bD:=bs.ch a9 (fun(h:rv=A)=>by have:=I;have:=hS.rd.lt;omega) (fun(h:D=A)=>by have:=I;have:=hS.rd.dlt;omega);refine q8<|yDe (fun a ha=>a0 A _ ⟨bC,bz,bB,bD,bA,I,(fun(h:A=d)=>by have:=a6.lt;omega)⟩ a (ha.kp [0,1,6,7]))
   refine qa4 19 _ (by kernel_rfl) rfl (yN [iX 0,iX 0,xF,xF,xF,xF,iX 0,iX 0] 86 fun bE q bF dU bG P=>?_);have bH:Ch (srB sr rv) w bE:=zt aq P eZ;have G:=zn bF aq;have bI:=aK.ch P id;have bJ:=a4.ch P id;have bK:=aJ.ch P id id;refine qA P eZ<|yH 11 (yQ (qa3 (lim:=H) bK v (by omega)) ?_);rintro bL ⟨bM,Q⟩;have bN:Ch (srB sr rv) w bL:=zt bH Q (fun _ _ h=> .inr h);have bO:=bI.ch Q hS.ne;have bP:=bJ.ch Q (fun(h:d=rv)=>by have:=f;have:=hS.rd.lt;omega);have bQ:=bG.ch Q (fun(h:q=rv)=>by have:=G;have:=hS.rd.lt;omega);refine qA Q iZ<|yK 16 (yQ (qa3 (lim:=2) bM p (by omega)) ?_);rintro bR ⟨bS,aa⟩;have bT:Ch (srB sr rv) w bR:=zt bN aa (fun _ _ h=> .inr h);have bU:=bO.ch aa hS.ne;have bV:=bP.ch aa (fun(h:d=rv)=>by have:=f;have:=hS.rd.lt;omega);have bW:=bQ.ch aa (fun(h:q=rv)=>by have:=G;have:=hS.rd.lt;omega);refine q8<|yd [17,18] [] .z<|yK 20 (yT [iX g,iX n,.bool ((k:Int)==1),xF,xF,xF,iX 0,iX 0] bW fun bX bY ab=>?_);have bZ:Ch (srB sr rv) w bX:=zt bT ab (fun i hi (h:i=q)=>by have:=G;omega);have c0:=bU.ch ab (fun(h:sr=q)=>by have:=G;have:=hS.blk.lt;omega);have c1:=bV.ch ab (fun(h:d=q)=>by have:=a4.lt;omega);have c2:=bS.ch ab (fun(h:rv=q)=>by have:=G;have:=hS.rd.lt;omega) (fun(h:D=q)=>by have:=G;have:=hS.rd.dlt;omega);refine q8<|yDe (fun a ha=>a0 q _ ⟨c1,bY,c0,c2,bZ,G,(fun(h:q=d)=>by have:=a4.lt;omega)⟩ a (ha.kp [0,1,6,7]))
  refine qa4 19 _ (by kernel_rfl) rfl (yN [iX 0,iX 0,xF,xF,xF,xF,iX 0,iX 0] 86 fun c3 o c4 dV c5 R=>?_);have c6:Ch (srB sr rv) w c3:=zt ap R eZ;have C:=zn c4 ap;have c7:=L.ch R id;have c8:=aI.ch R id id;have c9:=a2.ch R id;refine qA R eZ<|yH 5 (yQ (qa3 (lim:=W) c8 E (by omega)) ?_);rintro ca ⟨cb,S⟩;have cc:Ch (srB sr rv) w ca:=zt c6 S (fun _ _ h=> .inr h);have cd:=c7.ch S hS.ne;have ce:=c9.ch S (fun(h:d=rv)=>by have:=f;have:=hS.rd.lt;omega);have cf:=c5.ch S (fun(h:o=rv)=>by have:=C;have:=hS.rd.lt;omega);refine qA S iZ<|yH 11 (yQ (qa3 (lim:=H) cb v (by omega)) ?_);rintro cg ⟨ci,T⟩;have cj:Ch (srB sr rv) w cg:=zt cc T (fun _ _ h=> .inr h);have ck:=cd.ch T hS.ne;have cl:=ce.ch T (fun(h:d=rv)=>by have:=f;have:=hS.rd.lt;omega);have cm:=cf.ch T (fun(h:o=rv)=>by have:=C;have:=hS.rd.lt;omega);refine qA T iZ<|yK 16 (yQ (qa3 (lim:=2) ci p (by omega)) ?_);rintro cn ⟨co,ac⟩;have cp:Ch (srB sr rv) w cn:=zt cj ac (fun _ _ h=> .inr h);have cq:=ck.ch ac hS.ne;have cr:=cl.ch ac (fun(h:d=rv)=>by have:=f;have:=hS.rd.lt;omega);have ct:=cm.ch ac (fun(h:o=rv)=>by have:=C;have:=hS.rd.lt;omega);refine q8<|yd [17,18] [] .z<|yK 20 (yT [iX g,iX n,.bool ((k:Int)==1),xF,xF,xF,iX 0,iX 0] ct fun cu cv ad=>?_);have cw:Ch (srB sr rv) w cu:=zt cp ad (fun i hi (h:i=o)=>by have:=C;omega)
  have cx:=cq.ch ad (fun(h:sr=o)=>by have:=C;have:=hS.blk.lt;omega);have cy:=cr.ch ad (fun(h:d=o)=>by have:=a2.lt;omega);have cz:=co.ch ad (fun(h:rv=o)=>by have:=C;have:=hS.rd.lt;omega) (fun(h:D=o)=>by have:=C;have:=hS.rd.dlt;omega);refine q8<|yDe (fun a ha=>a0 o _ ⟨cy,cv,cx,cz,cw,C,(fun(h:o=d)=>by have:=a2.lt;omega)⟩ a (ha.kp [0,1,6,7]))
 generalize gs=m at aH⊢;obtain⟨cA,cB,aO,cC,cD,r,cE⟩:=aH;refine ysr<|yp 4 [] (.l (aO.c 0) .z) ?_;obtain⟨b,U,dW,V⟩:∃t ok s',qgL u3=(t,ok,s'):=⟨_,_,_,rfl⟩
 refine yo (yQ (qf2 cC V) ?_);rintro cF ⟨cG,ae⟩;have aP:Ch (srB sr rv) w cF:=zt cD ae (fun _ _ h=> .inr h);have cH:=aO.ch ae hS.ne;have aQ:=cA.ch ae (fun(h:d=rv)=>by have:=f;have:=hS.rd.lt;omega);have aR:=cB.ch ae (fun(h:m=rv)=>by have:=r;have:=hS.rd.lt;omega);refine yq 8<|yo (yN [xF,xF,xF,iX 0,iX 0] 84 fun cI J cJ dX cK X=>?_);have cL:Ch (srB sr rv) w cI:=zt aP X eZ;have af:=zn cJ aP;have cM:=cH.ch X id;have cN:=aQ.ch X id;have cO:=aR.ch X id;have cP:=cG.ch X id id;refine yo (yT [.bool b.bold,.bool b.under,.bool b.turned,iX b.fore,iX b.back] cK fun cQ cR Y=>?_);have cS:Ch (srB sr rv) w cQ:=zt cL Y (fun i hi (h:i=J)=>by have:=af;omega);have cT:=cM.ch Y (fun(h:sr=J)=>by have:=af;have:=hS.blk.lt;omega);have cU:=cN.ch Y (fun(h:d=J)=>by have:=aQ.lt;omega);have cV:=cO.ch Y (fun(h:m=J)=>by have:=aR.lt;omega);have cW:=cP.ch Y (fun(h:rv=J)=>by have:=af;have:=hS.rd.lt;omega) (fun(h:D=J)=>by have:=af;have:=hS.rd.dlt;omega);refine yz 11<|ysr<|yp 2 [] (.a (cR.cs 0 5) .z)<|yo (yT [iX g,iX n,.bool ((k:Int)==1),.bool b.bold,.bool b.under,.bool b.turned,iX b.fore,iX b.back] cV fun cX K ag=>?_);have ah:Ch (srB sr rv) w cX:=zt cS ag (fun i hi (h:i=m)=>by have:=r;omega);have Z:=cT.ch ag (fun(h:sr=m)=>by have:=r;have:=hS.blk.lt;omega);have ai:=cU.ch ag (fun h=>cE h.symm)
 have aj:=cW.ch ag (fun(h:rv=m)=>by have:=r;have:=hS.rd.lt;omega) (fun(h:D=m)=>by have:=r;have:=hS.rd.dlt;omega);refine ye<|ysr<|yp 6 [] (.l (Z.c 1) .z)<|yw [44] (rY fine) (fun aw=>?_) fun aw=>?_
 ·have ax:=aw;refine yq 9<|yw [47] (rY U) (fun ay=>?_) fun ay=>?_
  ·have aS:=ay;refine yp 13 [] (.l (K.c 2) .z)<|yw [51] (rN (rE k 1)) (fun az=>?_) fun az=>?_
   ·have cY:=az;refine yq 22<|yo (yT [pX rv,.bool true] Z fun cZ d0 ak=>?_);have d1:Ch (srB sr rv) w cZ:=zt ah ak (fun _ _ h=> .inl h);have d2:=ai.ch ak (fun(h:d=sr)=>by have:=f;have:=hS.blk.lt;omega);have d3:=aj.ch ak (fun h=>hS.ne h.symm) (fun h=>hS.nd h.symm);have d4:=K.ch ak (fun(h:m=sr)=>by have:=r;have:=hS.blk.lt;omega);refine ye<|ysr<|yp 1 [] (.a (d4.cs 0 8) .z)<|yo (yT [iX g,iX n,.bool ((k:Int)==1),.bool b.bold,.bool b.under,.bool b.turned,iX b.fore,iX b.back] d2 fun d5 d6 aA=>?_);have d7:Ch (srB sr rv) w d5:=zt d1 aA (fun i hi (h:i=d)=>by have:=f;omega);have d8:=d3.ch aA (fun(h:rv=d)=>by have:=f;have:=hS.rd.lt;omega) (fun(h:D=d)=>by have:=f;have:=hS.rd.dlt;omega);have d9:=d0.ch aA (fun(h:sr=d)=>by have:=f;have:=hS.blk.lt;omega);refine ye<|q9 (qfZ (.agg #[iX g,iX n,.bool ((k:Int)==1),.bool b.bold,.bool b.under,.bool b.turned,iX b.fore,iX b.back]) (.a (d6.cs 0 8) .z) ?_);rw[qfw E v p V]at hC;simp only[ib]at hC;obtain⟨rfl,rfl,rfl⟩:=hC;have da:true=(fine&&(U&&(!(k==1)||g==W-1))):=by simp[ax,aS,cY]
    exact⟨rfl,⟨by rw[<-da];exact d9,d8,hS.ne,hS.nd⟩,d7⟩
   have db:=az;refine yp 22 [] (.l (K.c 0) (.q6 (W-1) .z))<|yo (yT [pX rv,.bool ((g:Int)==(W-1))] Z fun dc dd al=>?_);have de:Ch (srB sr rv) w dc:=zt ah al (fun _ _ h=> .inl h);have df:=ai.ch al (fun(h:d=sr)=>by have:=f;have:=hS.blk.lt;omega);have dg:=aj.ch al (fun h=>hS.ne h.symm) (fun h=>hS.nd h.symm);have dh:=K.ch al (fun(h:m=sr)=>by have:=r;have:=hS.blk.lt;omega);refine ye<|ysr<|yp 1 [] (.a (dh.cs 0 8) .z)<|yo (yT [iX g,iX n,.bool ((k:Int)==1),.bool b.bold,.bool b.under,.bool b.turned,iX b.fore,iX b.back] df fun di dj aB=>?_);have dk:Ch (srB sr rv) w di:=zt de aB (fun i hi (h:i=d)=>by have:=f;omega);have dl:=dg.ch aB (fun(h:rv=d)=>by have:=f;have:=hS.rd.lt;omega) (fun(h:D=d)=>by have:=f;have:=hS.rd.dlt;omega);have dm:=dd.ch aB (fun(h:sr=d)=>by have:=f;have:=hS.blk.lt;omega);refine ye<|q9 (qfZ (.agg #[iX g,iX n,.bool ((k:Int)==1),.bool b.bold,.bool b.under,.bool b.turned,iX b.fore,iX b.back]) (.a (dj.cs 0 8) .z) ?_);rw[qfw E v p V]at hC;simp only[ib]at hC;obtain⟨rfl,rfl,rfl⟩:=hC;have dn:((g:Int)==(W-1))=(fine&&(U&&(!(k==1)||g==W-1))):=by simp[ax,aS,db]
   exact⟨rfl,⟨by rw[<-dn];exact dm,dl,hS.ne,hS.nd⟩,dk⟩
  have dp:=ay;refine yq 22<|yo (yT [pX rv,xF] Z fun dq dr am=>?_);have ds:Ch (srB sr rv) w dq:=zt ah am (fun _ _ h=> .inl h);have dt:=ai.ch am (fun(h:d=sr)=>by have:=f;have:=hS.blk.lt;omega);have du:=aj.ch am (fun h=>hS.ne h.symm) (fun h=>hS.nd h.symm);have dv:=K.ch am (fun(h:m=sr)=>by have:=r;have:=hS.blk.lt;omega);refine ye<|ysr<|yp 1 [] (.a (dv.cs 0 8) .z)<|yo (yT [iX g,iX n,.bool ((k:Int)==1),.bool b.bold,.bool b.under,.bool b.turned,iX b.fore,iX b.back] dt fun dw dx aC=>?_);have dy:Ch (srB sr rv) w dw:=zt ds aC (fun i hi (h:i=d)=>by have:=f;omega);have dz:=du.ch aC (fun(h:rv=d)=>by have:=f;have:=hS.rd.lt;omega) (fun(h:D=d)=>by have:=f;have:=hS.rd.dlt;omega);have dA:=dr.ch aC (fun(h:sr=d)=>by have:=f;have:=hS.blk.lt;omega);refine ye<|q9 (qfZ (.agg #[iX g,iX n,.bool ((k:Int)==1),.bool b.bold,.bool b.under,.bool b.turned,iX b.fore,iX b.back]) (.a (dx.cs 0 8) .z) ?_);rw[qfw E v p V]at hC;simp only[ib]at hC;obtain⟨rfl,rfl,rfl⟩:=hC;have dB:false=(fine&&(U&&(!(k==1)||g==W-1))):=by simp[ax,dp]
  exact⟨rfl,⟨by rw[<-dB];exact dA,dz,hS.ne,hS.nd⟩,dy⟩
 have dC:=aw;refine yq 22<|yo (yT [pX rv,xF] Z fun dD dE an=>?_);have dF:Ch (srB sr rv) w dD:=zt ah an (fun _ _ h=> .inl h);have dG:=ai.ch an (fun(h:d=sr)=>by have:=f;have:=hS.blk.lt;omega);have dH:=aj.ch an (fun h=>hS.ne h.symm) (fun h=>hS.nd h.symm);have dI:=K.ch an (fun(h:m=sr)=>by have:=r;have:=hS.blk.lt;omega);refine ye<|ysr<|yp 1 [] (.a (dI.cs 0 8) .z)<|yo (yT [iX g,iX n,.bool ((k:Int)==1),.bool b.bold,.bool b.under,.bool b.turned,iX b.fore,iX b.back] dG fun dJ dK aD=>?_);have dL:Ch (srB sr rv) w dJ:=zt dF aD (fun i hi (h:i=d)=>by have:=f;omega);have dM:=dH.ch aD (fun(h:rv=d)=>by have:=f;have:=hS.rd.lt;omega) (fun(h:D=d)=>by have:=f;have:=hS.rd.dlt;omega);have dN:=dE.ch aD (fun(h:sr=d)=>by have:=f;have:=hS.blk.lt;omega);refine ye<|q9 (qfZ (.agg #[iX g,iX n,.bool ((k:Int)==1),.bool b.bold,.bool b.under,.bool b.turned,iX b.fore,iX b.back]) (.a (dK.cs 0 8) .z) ?_);rw[qfw E v p V]at hC;simp only[ib]at hC;obtain⟨rfl,rfl,rfl⟩:=hC;have dO:false=(fine&&(U&&(!(k==1)||g==W-1))):=by simp[dC]
 exact⟨rfl,⟨by rw[<-dO];exact dN,dM,hS.ne,hS.nd⟩,dL⟩
theorem qfF {sr rv D:Nat}{s0 s1:RS}{fine f1:Bool}{w:World}(hS:SrIn w sr rv D fine s0){W H:Int}{LL:List (List Cel)}(hT:qai w)(hr7:gTop<=rv)(hs7:gTop<=sr)(hW:0<=W/\W<=60)(hH:0<=H/\H<=1000)(hL:qam W H.toNat [] s0 fine=(LL,s1,f1)):CP 90 [pX sr,iX W,iX H].toArray w fun e w'=>
 ∃o n cap rows,e= .returned (.slice (o.map at0) n cap)/\OutO w' w.heap.size o n cap rows/\rows.map RowO.l=LL/\SrIn w' sr rv D f1 s1/\Ch (srB sr rv) w w':=by
 refine yA Tryz.func90 rfl<|yx 1<|yx 1<|ys<|yx 2<|qa<|qV [0,1,7,10,11] (f':=[(0,pX sr),(1,iX W),(7,nX),(10,iX H),(11,iX 0)])<|qw (σ:=Nat×List RowO×Option Nat×Nat×Nat×RS×Bool) (fun⟨k,rows,o,n,cap,s,f⟩=>[(0,pX sr),(1,iX W),(7,.slice (o.map at0) n cap),(10,iX H),(11,iX (k:Int))]) (fun⟨k,rows,o,n,cap,s,f⟩ u=>k<=H.toNat/\qam W (H.toNat-k) (rows.map RowO.l) s f=qam W H.toNat [] s0 fine/\OutO u w.heap.size o n cap rows/\rows.length=k/\Blk u sr [pX rv,.bool f] tSr/\RdrAt u rv D s/\Ch (srB sr rv) w u) (fun⟨k,rows,o,n,cap,s,f⟩=>H.toNat-k) (0,[],none,0,0,s0,fine) rfl ?_ ?_
 ·exact⟨ir _,rfl,OutO.nil _ _,rfl,hS.blk,hS.rd,Ch.refl _ _⟩
 intro p av U aw V;obtain⟨k,rows,o,n,cap,s,f⟩:=p;obtain⟨hk,hG,hO,X,hB,hR,v⟩:=U;have ax:=hO.len;have ay:n<=cap:=hO.own.2.1;refine yx 1<|ys<|yc (rL (k:Int) H) (fun Y=>?_) fun Y=>?_
 ·have E:H.toNat-k=(H.toNat-(k+1))+1:=by omega
  rw[E,qam]at hG;refine yk<|ys<|qa<|ysr<|yp 5 [] (.l (hB.c 0) .z) ?_;obtain⟨j,L,Z,A⟩:∃l ok s',qdA W s=(l,ok,s'):=⟨_,_,_,rfl⟩
  refine yo (yC (qkf hR (qi v hT (fun h=>h.elim (fun(h:qe3=sr)=>by have:=g_lt;omega) (fun(h:qe3=rv)=>by have:=g_lt;omega)) (fun h=>h.elim (fun(h:qc3=sr)=>by have:=g_lt;omega) (fun(h:qc3=rv)=>by have:=g_lt;omega))) hr7 ⟨by omega,by omega⟩ A) ?_);rintro _ a0 ⟨d,m,q,rfl,a1,a2,M,N,F⟩;refine⟨_,rfl,?_⟩;have O:∀b,d=some b->w.heap.size<=b:=fun b e=>iq (zzs v) (M b e);have a3:∀z∈rows,∀b,z.b=some b->d≠some b:=fun z hz b hb e=>by have:=hO.rs.lt z hz b hb;have:=M b e;omega
  have P:Ch (srB sr rv) w a0:=zt v F (fun _ _ h=> .inr h);have G:=hB.ch F hS.ne;have a4:=hO.ch F (fun b hb hl (h:b=rv)=>by have:=hS.rd.lt;omega);refine yz 11<|ysr<|yp 6 [] (.l (G.c 1) .z)<|yw [27] (rY f) (fun I=>?_) fun I=>?_
  ·refine yq 10<|yo (yT [pX rv,.bool L] G fun a5 J B=>?_);have K:Ch (srB sr rv) w a5:=zt P B (fun _ _ h=> .inl h);have a6:=a4.ch B (fun b hb hl (h:b=sr)=>by have:=hS.blk.lt;omega);have Q:=N.ch B (fun h=>hS.ne h.symm) (fun h=>hS.nd h.symm);have a7:=a2.ch B (fun b e (h:b=sr)=>by have:=O b e;have:=hS.blk.lt;omega);refine ye<|ys<|ysr<|yp 5 [] (.l (J.c 1) .z)<|ye<|yc (rN (rY L)) (fun r=>?_) fun r=>?_
   ·refine yx 1<|q9 (rS (rB (rS (qy (rB (rS (yR1 (nX) ?_)))))));rw[A]at hG;rw[if_neg (by rw[r];simp)]at hG;rw[hL]at hG;simp only[ib]at hG;obtain⟨rfl,rfl,rfl⟩:=hG;exact⟨none,0,0,[],rfl,OutO.nil _ _,rfl,⟨(by rw[<-r];exact J),Q,hS.ne,hS.nd⟩,K⟩
   refine yk<|q7<|yq 2<|yo (yB [.slice (d.map at0) m q] 118 1 fun a8 a9 aa az ab t=>?_);have R:Ch (srB sr rv) w a8:=zt K t eZ;have aA:=zn aa K;have g:=a6.ch t (fun _ _ _ h=>h);have ac:=Q.ch t id id;have ad:=a7.ch t iZ;have ae:=J.ch t id;refine yo (qaE 118 1 24 o n cap (rows.map RowO.val) (some ⟨a9,0,none⟩) 1 1 [RowO.val (RowO.mk d m q j)] (some 40) (n+1) rfl ((rows++[(RowO.mk d m q j)]).map RowO.val) (by rw[iI];rfl) (by kernel_rfl) g.own (Rd.all ab) rfl rfl (fun h=>by cases h) (by constructor<;>first|omega|(simp only[maxLen];omega)) ?_);intro af ag ah ai aj aB C;have ak:=App.of aj C;have al:=g.app (RowsO.one ad a1 O) (zzs R) (fun x hx y hy b e=>by rw[iA.1 hy];exact a3 x hx b e) ai ak;have am:Ch (srB sr rv) w af:=zt R C (fun i hi h=>by have:=g.lo _ h;omega);have an:=ac.ch C (fun h=>by have:=g.lo _ h;have:=hS.rd.lt;omega) (fun h=>by have:=g.lo _ h;have:=hS.rd.dlt;omega);have ao:=ae.ch C (fun h=>by have:=g.lo _ h;have:=hS.blk.lt;omega);refine yq 5<|yE (nB (nS ?_));refine q7<|yp 2 [] (.q6 ((k:Int)+1) .z) ?_;rw[A]at hG;rw[if_pos (by rw[I,r];rfl)]at hG;have ap:((rows++[(RowO.mk d m q j)])).map RowO.l=rows.map RowO.l++[j]:=by rw[iI];rfl
   refine yE (fun a ha=>V (k+1,(rows++[(RowO.mk d m q j)]),ag,(n+1),ah,Z,true) _ ⟨by omega,by rw[ap];exact hG,al,by rw[hJ,X];rfl,by rw[<-r];exact ao,an,am⟩ (by show H.toNat-(k+1)<H.toNat-k;omega) a (ha.kp [0,1,7,10,11]))
  refine yq 10<|yo (yT [pX rv,xF] G fun aq S T=>?_);have ar:Ch (srB sr rv) w aq:=zt P T (fun _ _ h=> .inl h);have au:=N.ch T (fun h=>hS.ne h.symm) (fun h=>hS.nd h.symm);refine ye<|ys<|ysr<|yp 5 [] (.l (S.c 1) .z)<|ye<|yct<|yx 1<|q9 (rS (rB (rS (qy (rB (rS (yR1 (nX) ?_)))))));rw[A]at hG;rw[if_neg (by rw[I];simp)]at hG;rw[hL]at hG;simp only[ib]at hG;obtain⟨rfl,rfl,rfl⟩:=hG;exact⟨none,0,0,[],rfl,OutO.nil _ _,rfl,⟨S,au,hS.ne,hS.nd⟩,ar⟩
 have E:H.toNat-k=0:=by omega
 rw[E,qam]at hG;refine qm (eS (qd (qb (nS ?_))));refine yx 2<|q9 (yR1 (.slice (o.map at0) n cap) ?_);rw[hL]at hG;simp only[ib]at hG;obtain⟨rfl,rfl,rfl⟩:=hG;exact⟨o,n,cap,rows,rfl,hO,rfl,⟨hB,hR,hS.ne,hS.nd⟩,v⟩
theorem qkp {W:Int}:∀{k:Nat} {out L:List (List Cel)} {s s':RS} {f f':Bool},qam W k out s f=(L,s',f')->L.length<=out.length+k
  |0,out,L,s,s',f,f',h=>by simp only[qam,ib]at h;rw[h.1];exact iE _
  |k+1,out,L,s,s',f,f',h=>by
    rw[qam]at h
    split at h
    · have:=qkp h
      rw[hJ]at this
      simp only[iz,iP]at this
      omega
    · simp only[ib]at h
      rw[<-h.1];simp
theorem qqa {sr rv D:Nat}{s0 s1:RS}{fine f1:Bool}{w:World}(hS:SrIn w sr rv D fine s0){LL:List (List Cel)}(hT:qai w)(hr7:gTop<=rv)(hs7:gTop<=sr)(hBk:qfS s0 fine=(LL,s1,f1)):CP 91 [pX sr].toArray w fun e w'=>
 ∃o n cap rows,e= .returned (.slice (o.map at0) n cap)/\OutO w' w.heap.size o n cap rows/\rows.map RowO.l=LL/\SrIn w' sr rv D f1 s1/\Ch (srB sr rv) w w':=by
 refine yA Tryz.func91 rfl<|yx 1<|yx 1<|ys<|ysr<|yp 4 [] (.l (hS.blk.c 0) .z) ?_;obtain⟨g,N,q⟩:∃x s',qP (21) s0=(x,s'):=⟨_,_,rfl⟩
 have O:=qaa (lim:=21) (s:=s0);rw[q]at O;dsimp only at O;refine yo (yQ (qa3 (lim:=21) hS.rd q (by omega)) ?_);rintro a8 ⟨a9,P⟩;have aa:Ch (srB sr rv) w a8:=zt (Ch.refl (srB sr rv) w) P (fun _ _ h=> .inr h);have ab:=hS.blk.ch P hS.ne;refine yz 6<|qa<|qV [0,3,9,10] (f':=[(0,pX sr),(3,nX),(9,iX g),(10,iX 0)])<|qw (σ:=Nat×List RowO×Option Nat×Nat×Nat×RS×Bool) (fun⟨k,rows,o,n,cap,s,f⟩=>[(0,pX sr),(3,.slice (o.map at0) n cap),(9,iX g),(10,iX (k:Int))]) (fun⟨k,rows,o,n,cap,s,f⟩ u=>k<=(g:Int).toNat/\qeg ((g:Int).toNat-k) (rows.map RowO.l) s f=qeg (g:Int).toNat [] N fine/\OutO u w.heap.size o n cap rows/\n<=k/\Blk u sr [pX rv,.bool f] tSr/\RdrAt u rv D s/\Ch (srB sr rv) w u) (fun⟨k,rows,o,n,cap,s,f⟩=>(g:Int).toNat-k) (0,[],none,0,0,N,fine) rfl ?_ ?_
 ·exact⟨ir _,rfl,OutO.nil _ _,iE _,ab,a9,aa⟩
 intro p aB ac aC ad;obtain⟨k,rows,o,n,cap,s,f⟩:=p;obtain⟨hk,hG,hO,aD,hB,hR,Q⟩:=ac;have aE:n<=cap:=hO.own.2.1;refine yx 1<|ys<|yc (rL (k:Int) g) (fun ae=>?_) fun ae=>?_
 ·have E:(g:Int).toNat-k=((g:Int).toNat-(k+1))+1:=by omega
  rw[E,qeg]at hG;refine yk<|ys<|qa<|ysr<|yp 4 [] (.l (hB.c 0) .z) ?_;obtain⟨j,af,r⟩:∃x s',qP (61) s=(x,s'):=⟨_,_,rfl⟩
  have R:=qaa (lim:=61) (s:=s);rw[r]at R;dsimp only at R;refine yo (yQ (qa3 (lim:=61) hR r (by omega)) ?_);rintro S ⟨ag,F⟩;have G:Ch (srB sr rv) w S:=zt Q F (fun _ _ h=> .inr h);have ah:=hB.ch F hS.ne;have T:=hO.ch F (fun b hb hl (h:b=rv)=>by have:=hS.rd.lt;omega);refine yz 6<|ysr<|yq 3 ?_;obtain⟨U,ai,f36,t⟩:∃l s' f',qam j (1:Int).toNat [] af f=(l,s',f'):=⟨_,_,_,rfl⟩
  refine yo (yC (qfF ⟨ah,ag,hS.ne,hS.nd⟩ (qi G hT (fun h=>h.elim (fun(h:qe3=sr)=>by have:=g_lt;omega) (fun(h:qe3=rv)=>by have:=g_lt;omega)) (fun h=>h.elim (fun(h:qc3=sr)=>by have:=g_lt;omega) (fun(h:qc3=rv)=>by have:=g_lt;omega))) hr7 hs7 (by omega) (by omega) t) ?_);rintro _ V ⟨W,H,aj,v,rfl,X,Y,Z,I⟩;refine⟨_,rfl,?_⟩;have aF:S.heap.size<=V.heap.size:=zzs I;have ak:∀x∈rows,∀y∈v,∀b,x.b=some b->y.b≠some b:=fun x hx y hy b e e'=>by have:=T.rs.lt x hx b e;have:=X.rs.lo y hy b e';omega
  have B:=X.low (zzs G);have a0:Ch (srB sr rv) w V:=zt G I iZ;have m:=T.ch I (fun b hb hl h=>h.elim (fun(h:b=sr)=>by have:=hS.blk.lt;omega) (fun(h:b=rv)=>by have:=hS.rd.lt;omega));have a1:=B.len;have al:=congrArg List.length Y;rw[hZ,a1]at al;have aG:U.length<=1:=by have h:=qkp t;simpa using h
  refine yo (qaE 118 1 24 o n cap (rows.map RowO.val) (W.map at0) H aj (v.map RowO.val) (some 21) (n+H) rfl ((rows++v).map RowO.val) (by rw[iI]) (by kernel_rfl) m.own B.own.rd (by rw[hZ,a1,iN]) (rowO_one _) (fun h=>by cases W with|none=>exact(B.own.2.2.2.1 rfl).2|some b=>cases h) (by constructor<;>first|omega|(simp only[maxLen];omega)) ?_);intro am an ao ap aq aH C;have ar:=App.of aq C;have au:=m.app B.rs (zzs a0) ak ap ar;have a2:Ch (srB sr rv) w am:=zt a0 C (fun i hi h=>by have:=m.lo _ h;omega);have a3:=Z.rd.ch C (fun h=>by have:=m.lo _ h;have:=hS.rd.lt;omega) (fun h=>by have:=m.lo _ h;have:=hS.rd.dlt;omega);have J:=Z.blk.ch C (fun h=>by have:=m.lo _ h;have:=hS.blk.lt;omega);refine yz 6<|ysr<|yp 6 [] (.l (J.c 1) .z)<|yw [27] (rY f36) (fun K=>?_) fun K=>?_
  ·refine yq 11<|yo (yT [pX rv,.bool (decide (0<j))] J fun av L M=>?_);have a4:Ch (srB sr rv) w av:=zt a2 M (fun _ _ h=> .inl h);have a5:=a3.ch M (fun h=>hS.ne h.symm) (fun h=>hS.nd h.symm);have aw:=au.ch M (fun b hb hl (h:b=sr)=>by have:=hS.blk.lt;omega);refine ye<|ysr<|yp 5 [] (.l (L.c 1) .z)<|ye<|yc (rN (rL 0 j)) (fun A=>?_) fun A=>?_
   ·refine yx 1<|q9 (rB (rS (qy (rB (rS (yR1 (nX) ?_))))));have d:=hBk;unfold qfS at d;rw[q]at d;dsimp only at d;rw[r]at hG;dsimp only at hG;rw[show qam j 1 [] _ _=_ from t]at hG;dsimp only at hG;rw[if_neg (by rw[jr A];simp)]at hG;rw[d]at hG;simp only[ib]at hG;obtain⟨rfl,rfl,rfl⟩:=hG;exact⟨none,0,0,[],rfl,OutO.nil _ _,rfl,⟨(by rw[<-jr A];exact L),a5,hS.ne,hS.nd⟩,a4⟩
   refine qo (nB (nS ?_));refine q7<|yp 2 [] (.q6 ((k:Int)+1) .z) ?_;rw[r]at hG;dsimp only at hG;rw[show qam j 1 [] _ _=_ from t]at hG;dsimp only at hG;rw[if_pos (by rw[K,j1 A];rfl)]at hG;have ax:((rows++v)).map RowO.l=rows.map RowO.l++U:=by rw[iI,Y]
   refine yE (fun a ha=>ad (k+1,(rows++v),an,(n+H),ao,ai,true) _ ⟨by omega,by rw[ax];exact hG,aw,by omega,by rw[<-j1 A];exact L,a5,a4⟩ (by show(g:Int).toNat-(k+1)<(g:Int).toNat-k;omega) a (ha.kp [0,3,9,10]))
  refine yq 11<|yo (yT [pX rv,xF] J fun ay a6 a7=>?_);have az:Ch (srB sr rv) w ay:=zt a2 a7 (fun _ _ h=> .inl h);have aA:=a3.ch a7 (fun h=>hS.ne h.symm) (fun h=>hS.nd h.symm);refine ye<|ysr<|yp 5 [] (.l (a6.c 1) .z)<|ye<|yct<|yx 1<|q9 (rB (rS (qy (rB (rS (yR1 (nX) ?_))))));have d:=hBk;unfold qfS at d;rw[q]at d;dsimp only at d;rw[r]at hG;dsimp only at hG;rw[show qam j 1 [] _ _=_ from t]at hG;dsimp only at hG;rw[if_neg (by rw[K];simp)]at hG;rw[d]at hG;simp only[ib]at hG;obtain⟨rfl,rfl,rfl⟩:=hG;exact⟨none,0,0,[],rfl,OutO.nil _ _,rfl,⟨a6,aA,hS.ne,hS.nd⟩,az⟩
 have E:(g:Int).toNat-k=0:=by omega
 rw[E,qeg]at hG;refine qm (eS (qd (qb (nS ?_))));refine yx 2<|q9 (yR1 (.slice (o.map at0) n cap) ?_);have d:=hBk;unfold qfS at d;rw[q]at d;dsimp only at d;rw[d]at hG;simp only[ib]at hG;obtain⟨rfl,rfl,rfl⟩:=hG;exact⟨o,n,cap,rows,rfl,hO,rfl,⟨hB,hR,hS.ne,hS.nd⟩,Q⟩
abbrev tI:TypeId:=3
theorem put_mkU {l:List Int}(h:l.length<=3)(c:Value)(r:List Value):put (c::uX 0::uX 0::uX 0::r) 1 (l.map (Value.int .u8))=c::uX (mkU l).b0::uX (mkU l).b1::uX (mkU l).b2::r:=by
 match l,h with
 |[],_=>rfl
 |[a],_=>rfl
 |[a,b],_=>rfl
 |[a,b,c],_=>rfl
theorem qqb (x:ByteArray):qe7 x=(qaT x).map (Value.int .u8):=by
 unfold qe7 qaT;rw[jB];rfl
theorem mkU_n (x:ByteArray):(x.size:Int)=(mkU (qaT x)).n:=by
 show _=(((qaT x).length:Nat):Int)
 rw[qeU]
theorem qj0 {most:Int}{s s':RS}{x:ByteArray}(h:qbb most s=(x,s'))(h0:0<most):(x.size:Int)<=most:=by
 have hb:=qaa (lim:=most+1) (s:=s);unfold qbb at h;rw[if_pos h0]at h;split at h
 ·simp only[ib]at h;rw[<-h.1];show(0:Int)<=most;omega
 rename_i n ys e;rw[e]at hb;have a:n<most+1:=hb.2.2 (by omega);have b:0<=n:=hb.1;split at h
 ·simp only[ib]at h;rw[<-h.1];show(0:Int)<=most;omega
 simp only[ib]at h;rw[<-h.1,qb7,im];omega
theorem qlj {sr rv D:Nat}{s0 s1:RS}{fine f1:Bool}{w:World}(hS:SrIn w sr rv D fine s0){p:PS}(hU:qcD w)(hr7:gTop<=rv)(hs7:gTop<=sr)(hP:qiN s0 fine=(p,s1,f1)):CP 93 [pX sr].toArray w fun e w'=>
 ∃o n cap,e= .returned (.agg (p.vals (.slice (o.map at0) n cap)).toArray)/\Own w' tI 1 o n cap (p.params.map (Value.int .i64))/\(∀b,o=some b->w.heap.size<=b)/\SrIn w' sr rv D f1 s1/\Ch (srB sr rv) w w':=by
 obtain⟨r,u1,P⟩:∃x s',qP 8 s0=(x,s'):=⟨_,_,rfl⟩
 obtain⟨t,u2,J⟩:∃x s',qP 8 u1=(x,s'):=⟨_,_,rfl⟩
 have aH:=qaa (lim:=8) (s:=s0);have aI:=qaa (lim:=8) (s:=u1);rw[P]at aH;rw[J]at aI;dsimp only at aH aI;refine yA Tryz.func93 rfl<|ysr<|yo (yN [iX 0,uX 0,uX 0,uX 0,iX 0,oX,nX,oX,iX 0] 94 fun bj g bk eu bl aq=>?_);have bm:Ch (srB sr rv) w bj:=zt (Ch.refl (srB sr rv) w) aq eZ;have q:w.heap.size<=g:=by rw[bk];exact zzs (Ch.refl (srB sr rv) w)
 have bn:=hS.blk.ch aq id;have bo:=hS.rd.ch aq id id;refine ye<|qe1 (σ:=Nat) (fun f=>[(0,pX sr),(2,pX g),(3,pX f)]) (fun f u=>Blk u g [iX 0,uX 0,uX 0,uX 0,iX 0,oX,nX,oX,iX 0] 94/\Blk u f [iX r,uX 0,uX 0,uX 0,iX 0,oX,nX,oX,iX t] 94/\Blk u sr [pX rv,.bool fine] tSr/\RdrAt u rv D u2/\Ch (srB sr rv) w u/\w.heap.size<=f/\ ¬f=g) (fun ev ar=>?_) (fun gs u22 aJ=>?_)
 ·refine qaI (· =rv) [9,12] (by kernel_rfl) (fun bp ew a2=>?_);have au:Ch (srB sr rv) w bp:=zt bm a2 eZ;have a3:=bn.ch a2 id;have aK:=bo.ch a2 id id;have a4:=bl.ch a2 id;refine ydC [0,1,2,3,5,6,7,8] [] (fun u hu=>(.l (qg hu (a3.c 0) hS.ne) (.l (qg hu (a3.c 0) hS.ne) .z)))<|qas 4 11 (by kernel_rfl) (by decide) ?_ ?_
  ·refine qa4 4 _ (by kernel_rfl) rfl (yQ (qa3 (lim:=8) aK P (by omega)) ?_);rintro bq ⟨aL,a5⟩;have av:Ch (srB sr rv) w bq:=zt au a5 (fun _ _ h=> .inr h);have aM:=a3.ch a5 hS.ne;have a6:=a4.ch a5 (fun(h:g=rv)=>by have:=q;have:=hS.rd.lt;omega);refine qA a5 iZ<|qas 9 11 (by kernel_rfl) (by decide) ?_ ?_
   ·refine qav 9 _ (by kernel_rfl) rfl (yQ (qa3 (lim:=8) aL J (by omega)) ?_);rintro br ⟨bs,aw⟩;have aN:Ch (srB sr rv) w br:=zt av aw (fun _ _ h=> .inr h);have bt:=aM.ch aw hS.ne;have ax:=a6.ch aw (fun(h:g=rv)=>by have:=q;have:=hS.rd.lt;omega);refine qjy (B:=fun j=>j=rv)<|ydC [10] [] (fun u hu=> .z)<|yH 11 (yN [iX 0,uX 0,uX 0,uX 0,iX 0,oX,nX,oX,iX 0] 94 fun bu G bv ex bw Q=>?_);have bx:Ch (srB sr rv) w bu:=zt aN Q eZ;have R:=zn bv aN;have bz:=bt.ch Q id;have bA:=ax.ch Q id;have bB:=bs.ch Q id id;refine qA Q eZ<|yK 12 (yT [iX r,uX 0,uX 0,uX 0,iX 0,oX,nX,oX,iX t] bw fun bC bD a7=>?_);have bE:Ch (srB sr rv) w bC:=zt bx a7 (fun i hi (h:i=G)=>by have:=R;omega);have bF:=bz.ch a7 (fun(h:sr=G)=>by have:=R;have:=hS.blk.lt;omega);have bG:=bA.ch a7 (fun(h:g=G)=>by have:=ax.lt;omega);have bH:=bB.ch a7 (fun(h:rv=G)=>by have:=R;have:=hS.rd.lt;omega) (fun(h:D=G)=>by have:=R;have:=hS.rd.dlt;omega);refine q8<|yDe (fun a ha=>ar G _ ⟨bG,bD,bF,bH,bE,R,(fun(h:G=g)=>by have:=ax.lt;omega)⟩ a (ha.kp [0,2,3]))
   refine qa4 11 _ (by kernel_rfl) rfl (yN [iX 0,uX 0,uX 0,uX 0,iX 0,oX,nX,oX,iX 0] 94 fun bI F bJ ey bK S=>?_);have bL:Ch (srB sr rv) w bI:=zt av S eZ;have K:=zn bJ av;have bM:=aM.ch S id;have bN:=a6.ch S id;have bO:=aL.ch S id id;refine qA S eZ<|yK 9 (yQ (qa3 (lim:=8) bO J (by omega)) ?_);rintro bP ⟨bQ,a8⟩;have bR:Ch (srB sr rv) w bP:=zt bL a8 (fun _ _ h=> .inr h);have bS:=bM.ch a8 hS.ne;have bT:=bN.ch a8 (fun(h:g=rv)=>by have:=q;have:=hS.rd.lt;omega);have bU:=bK.ch a8 (fun(h:F=rv)=>by have:=K;have:=hS.rd.lt;omega);refine q8<|yd [10] [] .z<|yK 12 (yT [iX r,uX 0,uX 0,uX 0,iX 0,oX,nX,oX,iX t] bU fun bV bW a9=>?_);have bX:Ch (srB sr rv) w bV:=zt bR a9 (fun i hi (h:i=F)=>by have:=K;omega);have bY:=bS.ch a9 (fun(h:sr=F)=>by have:=K;have:=hS.blk.lt;omega);have bZ:=bT.ch a9 (fun(h:g=F)=>by have:=a6.lt;omega);have c0:=bQ.ch a9 (fun(h:rv=F)=>by have:=K;have:=hS.rd.lt;omega) (fun(h:D=F)=>by have:=K;have:=hS.rd.dlt;omega);refine q8<|yDe (fun a ha=>ar F _ ⟨bZ,bW,bY,c0,bX,K,(fun(h:F=g)=>by have:=a6.lt;omega)⟩ a (ha.kp [0,2,3]))
  refine qa4 11 _ (by kernel_rfl) rfl (yN [iX 0,uX 0,uX 0,uX 0,iX 0,oX,nX,oX,iX 0] 94 fun c1 E c2 ez c3 T=>?_);have c4:Ch (srB sr rv) w c1:=zt au T eZ;have H:=zn c2 au;have c5:=a3.ch T id;have c6:=aK.ch T id id;have c7:=a4.ch T id;refine qA T eZ<|yH 4 (yQ (qa3 (lim:=8) c6 P (by omega)) ?_);rintro c8 ⟨c9,U⟩;have ca:Ch (srB sr rv) w c8:=zt c4 U (fun _ _ h=> .inr h);have cb:=c5.ch U hS.ne;have cc:=c7.ch U (fun(h:g=rv)=>by have:=q;have:=hS.rd.lt;omega);have cd:=c3.ch U (fun(h:E=rv)=>by have:=H;have:=hS.rd.lt;omega);refine qA U iZ<|yK 9 (yQ (qa3 (lim:=8) c9 J (by omega)) ?_);rintro ce ⟨cf,aa⟩;have cg:Ch (srB sr rv) w ce:=zt ca aa (fun _ _ h=> .inr h);have ci:=cb.ch aa hS.ne;have cj:=cc.ch aa (fun(h:g=rv)=>by have:=q;have:=hS.rd.lt;omega);have ck:=cd.ch aa (fun(h:E=rv)=>by have:=H;have:=hS.rd.lt;omega);refine q8<|yd [10] [] .z<|yK 12 (yT [iX r,uX 0,uX 0,uX 0,iX 0,oX,nX,oX,iX t] ck fun cl cm ab=>?_);have cn:Ch (srB sr rv) w cl:=zt cg ab (fun i hi (h:i=E)=>by have:=H;omega);have co:=ci.ch ab (fun(h:sr=E)=>by have:=H;have:=hS.blk.lt;omega);have cp:=cj.ch ab (fun(h:g=E)=>by have:=a4.lt;omega);have cq:=cf.ch ab (fun(h:rv=E)=>by have:=H;have:=hS.rd.lt;omega) (fun(h:D=E)=>by have:=H;have:=hS.rd.dlt;omega);refine q8<|yDe (fun a ha=>ar E _ ⟨cp,cm,co,cq,cn,H,(fun(h:E=g)=>by have:=a4.lt;omega)⟩ a (ha.kp [0,2,3]))
 generalize gs=f at aJ⊢;obtain⟨cr,ct,cu,cv,cw,m,V⟩:=aJ;refine ys<|yD [7,8,11] fun cx eA W=>?_;have cy:Ch (srB sr rv) w cx:=zt cw W eZ;have aO:=cu.ch W id;have cz:=cv.ch W id id;have cA:=cr.ch W id;have cB:=ct.ch W id;refine yd (uL 0 7) [] (.l (aO.c 0) .z) ?_;obtain⟨d,cC,ac⟩:∃x s',qbb 3 u2=(x,s'):=⟨_,_,rfl⟩
 refine yK 7 (yQ (qcU (most:=3) cz ac (by decide)) ?_);rintro cD ⟨cE,ad⟩;have cF:Ch (srB sr rv) w cD:=zt cy ad (fun _ _ h=> .inr h);have cG:=aO.ch ad hS.ne;have cH:=cA.ch ad (fun(h:g=rv)=>by have:=q;have:=hS.rd.lt;omega);have cI:=cB.ch ad (fun(h:f=rv)=>by have:=m;have:=hS.rd.lt;omega);have eB:=qj0 ac (by decide);refine q8 ?_;have aP:(qaT d).length<=3:=by rw[qeU];omega
 refine yK 8 (e_copyS' f 1 3 3 d (some 23) (mkU (qaT d)).n (mkU_n d) (by kernel_rfl) cI (by omega) (by simp only[iz,iP];omega) ?_);intro cJ aQ ae;rw[qqb,put_mkU aP]at aQ;have cK:Ch (srB sr rv) w cJ:=zt cF ae (fun i hi (h:i=f)=>by have:=m;omega);have cL:=cG.ch ae (fun(h:sr=f)=>by have:=m;have:=hS.blk.lt;omega);have cM:=cH.ch ae (fun h=>V h.symm);have cN:=cE.ch ae (fun(h:rv=f)=>by have:=m;have:=hS.rd.lt;omega) (fun(h:D=f)=>by have:=m;have:=hS.rd.dlt;omega);refine q8<|yd [9,10] [] .z<|yK 11 (yT [iX r,uX (mkU (qaT d)).b0,uX (mkU (qaT d)).b1,uX (mkU (qaT d)).b2,iX (mkU (qaT d)).n,oX,nX,oX,iX t] aQ fun cO cP af=>?_);have cQ:Ch (srB sr rv) w cO:=zt cK af (fun i hi (h:i=f)=>by have:=m;omega);have aR:=cL.ch af (fun(h:sr=f)=>by have:=m;have:=hS.blk.lt;omega);have cR:=cM.ch af (fun h=>V h.symm);have cS:=cN.ch af (fun(h:rv=f)=>by have:=m;have:=hS.rd.lt;omega) (fun(h:D=f)=>by have:=m;have:=hS.rd.dlt;omega);refine q8<|yDe (nS ?_);refine ysr<|yp 4 [] (.l (aR.c 0) .z) ?_;obtain⟨v,aS,ag⟩:∃x s',qbb 2 cC=(x,s'):=⟨_,_,rfl⟩
 refine yo (yQ (qcU (most:=2) cS ag (by decide)) ?_);rintro cT ⟨cU,ah⟩;have cV:Ch (srB sr rv) w cT:=zt cQ ah (fun _ _ h=> .inr h);have cW:=aR.ch ah hS.ne;have cX:=cR.ch ah (fun(h:g=rv)=>by have:=q;have:=hS.rd.lt;omega);have cY:=cP.ch ah (fun(h:f=rv)=>by have:=m;have:=hS.rd.lt;omega);have eC:=qj0 ag (by decide);refine yq 6<|yo (yT [iX r,uX (mkU (qaT d)).b0,uX (mkU (qaT d)).b1,uX (mkU (qaT d)).b2,iX (mkU (qaT d)).n,.string v,nX,oX,iX t] cY fun cZ d0 ai=>?_);have d1:Ch (srB sr rv) w cZ:=zt cV ai (fun i hi (h:i=f)=>by have:=m;omega);have aT:=cW.ch ai (fun(h:sr=f)=>by have:=m;have:=hS.blk.lt;omega);have d2:=cX.ch ai (fun h=>V h.symm);have d3:=cU.ch ai (fun(h:rv=f)=>by have:=m;have:=hS.rd.lt;omega) (fun(h:D=f)=>by have:=m;have:=hS.rd.dlt;omega);refine ye<|ys<|ysr<|yp 4 [] (.l (aT.c 0) .z) ?_;obtain⟨y,aU,aj⟩:∃x s',qP (9) aS=(x,s'):=⟨_,_,rfl⟩
 have aV:=qaa (lim:=9) (s:=aS);rw[aj]at aV;dsimp only at aV;refine yo (yQ (qa3 (lim:=9) d3 aj (by omega)) ?_);rintro d4 ⟨d5,ak⟩;have d6:Ch (srB sr rv) w d4:=zt d1 ak (fun _ _ h=> .inr h);have d7:=aT.ch ak hS.ne;have d8:=d2.ch ak (fun(h:g=rv)=>by have:=q;have:=hS.rd.lt;omega);have d9:=d0.ch ak (fun(h:f=rv)=>by have:=m;have:=hS.rd.lt;omega);refine yz 6<|qa<|qV [0,2,3,36,37] (f':=[(0,pX sr),(2,pX g),(3,pX f),(36,iX y),(37,iX 0)])<|qw (σ:=Nat×List Int×Option Nat×Nat×Nat×RS) (fun⟨k,l,o,n,cap,s⟩=>[(0,pX sr),(2,pX g),(3,pX f),(36,iX y),(37,iX (k:Int))]) (fun⟨k,l,o,n,cap,s⟩ u=>k<=(y:Int).toNat/\qeY ((y:Int).toNat-k) l s=qeY (y:Int).toNat [] aU/\Own u tI 1 o n cap (l.map (Value.int .i64))/\(∀b,o=some b->w.heap.size<=b)/\(∀b,o=some b-> ¬b=f)/\(∀b,o=some b-> ¬b=g)/\n<=k/\Blk u sr [pX rv,.bool fine] tSr/\Blk u f [iX r,uX (mkU (qaT d)).b0,uX (mkU (qaT d)).b1,uX (mkU (qaT d)).b2,iX (mkU (qaT d)).n,.string v,.slice (o.map at0) n cap,oX,iX t] 94/\Blk u g [iX 0,uX 0,uX 0,uX 0,iX 0,oX,nX,oX,iX 0] 94/\RdrAt u rv D s/\Ch (srB sr rv) w u) (fun⟨k,l,o,n,cap,s⟩=>(y:Int).toNat-k) (0,[],none,0,0,aU) rfl ?_ ?_
 ·exact⟨ir _,rfl,Own.nil _ _ _,(fun b e=>by cases e),(fun b e=>by cases e),(fun b e=>by cases e),iE _,d7,d9,d8,d5,d6⟩
 intro p eD da eE db;obtain⟨k,l,o,n,cap,s⟩:=p;obtain⟨hk,hG,hO,A,ay,al,eF,hB,aW,aX,hR,aY⟩:=da;have eG:n<=cap:=hO.2.1;have dc:l.length=n:=by have h:=hO.1;simpa using h
 refine yx 1<|ys<|yc (rL (k:Int) y) (fun dd=>?_) fun dd=>?_
 ·have az:(y:Int).toNat-k=((y:Int).toNat-(k+1))+1:=by omega
  rw[az,qeY]at hG;refine yk<|ys<|qa<|qaI (· =rv) [8,10] (by kernel_rfl) (fun de eH L=>?_);have df:Ch (srB sr rv) w de:=zt aY L eZ;have aZ:=hB.ch L id;have dg:=aX.ch L id;have b3:=aW.ch L id;have dh:=hR.ch L id id;have di:=hO.ch L iZ;refine ydC (uL 0 6) [] (fun u hu=>(.l (qg hu (b3.c 6) (fun(h:f=rv)=>by have:=m;have:=hS.rd.lt;omega)) (.l (qg hu (aZ.c 0) hS.ne) .z))) ?_;obtain⟨am,dj,aA⟩:∃x s',qP (10000) s=(x,s'):=⟨_,_,rfl⟩
  have b4:=qaa (lim:=10000) (s:=s);rw[aA]at b4;dsimp only at b4;refine yH 6 (yQ (qa3 (lim:=10000) dh aA (by omega)) ?_);rintro dk ⟨dl,M⟩;have b5:Ch (srB sr rv) w dk:=zt df M (fun _ _ h=> .inr h);have dm:=aZ.ch M hS.ne;have dn:=dg.ch M (fun(h:g=rv)=>by have:=q;have:=hS.rd.lt;omega);have dp:=b3.ch M (fun(h:f=rv)=>by have:=m;have:=hS.rd.lt;omega);have b6:=di.ch M (fun b e (h:b=rv)=>by have:=A b e;have:=hS.rd.lt;omega);refine qA M iZ<|yH 7 (yB [iX am] 3 1 fun dq b8 dr eI ds I=>?_);have eJ:=zv (b:=b8) b6;have b9:Ch (srB sr rv) w dq:=zt b5 I eZ;have eK:=zn dr b5;have dt:=dm.ch I id;have ba:=dn.ch I id;have bb:=dp.ch I id;have du:=b6.ch I iZ;have dv:=dl.ch I id id;refine qA I eZ ?_;refine yK 8 (qaE 3 1 8 o n cap (l.map (Value.int .i64)) (some ⟨b8,0,none⟩) 1 1 [iX am] (some 47) (n+1) rfl ((l++[am]).map (Value.int .i64)) (by rw[iI];rfl) (by kernel_rfl) du (Rd.all ds) rfl rfl (fun h=>by cases h) (by constructor<;>first|omega|(simp only[maxLen];omega)) ?_);intro dw aB bc dx bd eL N;have bf:=App.of bd N;have dy:∀b,aB=some b->w.heap.size<=b:=fun b e=>by
   rcases bd with h|⟨g',h,h'⟩
   ·exact A b (h▸e)
   rw[h]at e;have:=zi e;have:=zzs b9;omega
  have bg:=bf.apart bb.lt ay;have dz:=bf.apart ba.lt al;have dA:Ch (srB sr rv) w dw:=zt b9 N (fun i hi h=>by have:=A _ h;omega);have dB:=dt.ch N (fun h=>by have:=A _ h;have:=hS.blk.lt;omega);have dC:=ba.ch N (fun h=>al _ h rfl);have dD:=bb.ch N (fun h=>ay _ h rfl);have dE:=dv.ch N (fun h=>by have:=A _ h;have:=hS.rd.lt;omega) (fun h=>by have:=A _ h;have:=hS.rd.dlt;omega);refine q8<|yd [9] [] .z<|yK 10 (yT [iX r,uX (mkU (qaT d)).b0,uX (mkU (qaT d)).b1,uX (mkU (qaT d)).b2,iX (mkU (qaT d)).n,.string v,.slice (aB.map at0) (n+1) bc,oX,iX t] dD fun dF dG X=>?_);have dH:Ch (srB sr rv) w dF:=zt dA X (fun i hi (h:i=f)=>by have:=m;omega);have dI:=dB.ch X (fun(h:sr=f)=>by have:=m;have:=hS.blk.lt;omega);have dJ:=dC.ch X (fun h=>V h.symm);have dK:=dE.ch X (fun(h:rv=f)=>by have:=m;have:=hS.rd.lt;omega) (fun(h:D=f)=>by have:=m;have:=hS.rd.dlt;omega);have dL:=dx.ch X (fun b e (h:b=f)=>bg b e h);refine q8<|yDe (nB (nS ?_));refine q7<|yp 2 [] (.q6 ((k:Int)+1) .z) ?_;rw[aA]at hG;refine yE (fun a ha=>db (k+1,(l++[am]),aB,(n+1),bc,dj) _ ⟨by omega,hG,dL,dy,bg,dz,by omega,dI,dG,dJ,dK,dH⟩ (by show(y:Int).toNat-(k+1)<(y:Int).toNat-k;omega) a (ha.kp [0,2,3,36,37]))
 have az:(y:Int).toNat-k=0:=by omega
 rw[az,qeY]at hG;refine qm (eS (qd (qb (nS ?_))));refine ysr<|yp 4 [] (.l (hB.c 0) .z) ?_;obtain⟨C,eM,an⟩:∃x s',qbb 40 s=(x,s'):=⟨_,_,rfl⟩
 refine yo (yQ (qcU (most:=40) hR an (by decide)) ?_);rintro dM ⟨dN,Y⟩;have dO:Ch (srB sr rv) w dM:=zt aY Y (fun _ _ h=> .inr h);have dP:=hB.ch Y hS.ne;have dQ:=aX.ch Y (fun(h:g=rv)=>by have:=q;have:=hS.rd.lt;omega);have dR:=aW.ch Y (fun(h:f=rv)=>by have:=m;have:=hS.rd.lt;omega);have dS:=hO.ch Y (fun b e (h:b=rv)=>by have:=A b e;have:=hS.rd.lt;omega);have eN:=qj0 an (by decide);refine yq 6<|yo (yT [iX r,uX (mkU (qaT d)).b0,uX (mkU (qaT d)).b1,uX (mkU (qaT d)).b2,iX (mkU (qaT d)).n,.string v,.slice (o.map at0) n cap,.string C,iX t] dR fun dT aC Z=>?_);have aD:Ch (srB sr rv) w dT:=zt dO Z (fun i hi (h:i=f)=>by have:=m;omega);have aE:=dP.ch Z (fun(h:sr=f)=>by have:=m;have:=hS.blk.lt;omega);have bh:=dQ.ch Z (fun h=>V h.symm);have aF:=dS.ch Z (fun b e (h:b=f)=>ay b e h);have bi:=dN.ch Z (fun(h:rv=f)=>by have:=m;have:=hS.rd.lt;omega) (fun(h:D=f)=>by have:=m;have:=hS.rd.dlt;omega);refine ye<|ysr<|yp 6 [] (.l (aE.c 1) .z)<|yw [61] (rY fine) (fun aG=>?_) fun aG=>?_
 ·refine yp 7 [] (.a (aC.cs 0 9) .z)<|yo (yQ (rightE (PS.mk r (mkU (qaT d)) v l C t) (o.map at0) n cap _ (qaf aD hU (fun h=>h.elim (fun(h:qfK=sr)=>by have:=u_lt;omega) (fun(h:qfK=rv)=>by have:=u_lt;omega)) (fun h=>h.elim (fun(h:gAcc=sr)=>by have:=u_lt;omega) (fun(h:gAcc=rv)=>by have:=u_lt;omega))) (qoO (qgJ _) aP) aF.rd dc (by cases ho:o with|none=>rw[ho]at hO;exact .inl (hO.2.2.2.1 rfl).1|some b=>exact .inr ⟨b,0,rfl⟩) (by omega) (by dsimp only;omega)) fun dU O=>?_);have dV:Ch (srB sr rv) w dU:=zt aD O eZ;have dW:=aE.ch O id;have dX:=bh.ch O id;have dY:=aF.ch O iZ;have dZ:=bi.ch O id id;have e0:=aC.ch O id;refine yq 11<|yo (yT [pX rv,.bool (qG (PS.mk r (mkU (qaT d)) v l C t))] dW fun e1 e2 a0=>?_);have e3:Ch (srB sr rv) w e1:=zt dV a0 (fun _ _ h=> .inl h);have e4:=dX.ch a0 (fun(h:g=sr)=>by have:=q;have:=hS.blk.lt;omega);have e5:=dY.ch a0 (fun b e (h:b=sr)=>by have:=A b e;have:=hS.blk.lt;omega);have e6:=dZ.ch a0 (fun h=>hS.ne h.symm) (fun h=>hS.nd h.symm);have e7:=e0.ch a0 (fun(h:f=sr)=>by have:=m;have:=hS.blk.lt;omega);refine ye<|ysr<|yp 1 [] (.a (e7.cs 0 9) .z)<|yo (yT [iX r,uX (mkU (qaT d)).b0,uX (mkU (qaT d)).b1,uX (mkU (qaT d)).b2,iX (mkU (qaT d)).n,.string v,.slice (o.map at0) n cap,.string C,iX t] e4 fun e8 e9 ao=>?_);have ea:Ch (srB sr rv) w e8:=zt e3 ao (fun i hi (h:i=g)=>by have:=q;omega)
  have eb:=e5.ch ao (fun b e (h:b=g)=>al b e h);have ec:=e6.ch ao (fun(h:rv=g)=>by have:=q;have:=hS.rd.lt;omega) (fun(h:D=g)=>by have:=q;have:=hS.rd.dlt;omega);have ed:=e2.ch ao (fun(h:sr=g)=>by have:=q;have:=hS.blk.lt;omega);refine ye<|q9 (qfZ (.agg #[iX r,uX (mkU (qaT d)).b0,uX (mkU (qaT d)).b1,uX (mkU (qaT d)).b2,iX (mkU (qaT d)).n,.string v,.slice (o.map at0) n cap,.string C,iX t]) (.a (e9.cs 0 9) .z) ?_);rw[qgc P J ac ag aj hG.symm an]at hP;simp only[ib]at hP;obtain⟨rfl,rfl,rfl⟩:=hP;have ee:(qG (PS.mk r (mkU (qaT d)) v l C t))=(fine&&qG (PS.mk r (mkU (qaT d)) v l C t)):=by rw[aG];rfl
  exact⟨o,n,cap,rfl,eb,A,⟨by rw[<-ee];exact ed,ec,hS.ne,hS.nd⟩,ea⟩
 refine yq 11<|yo (yT [pX rv,xF] aE fun ef eg a1=>?_);have eh:Ch (srB sr rv) w ef:=zt aD a1 (fun _ _ h=> .inl h);have ei:=bh.ch a1 (fun(h:g=sr)=>by have:=q;have:=hS.blk.lt;omega);have ej:=aF.ch a1 (fun b e (h:b=sr)=>by have:=A b e;have:=hS.blk.lt;omega);have ek:=bi.ch a1 (fun h=>hS.ne h.symm) (fun h=>hS.nd h.symm);have el:=aC.ch a1 (fun(h:f=sr)=>by have:=m;have:=hS.blk.lt;omega);refine ye<|ysr<|yp 1 [] (.a (el.cs 0 9) .z)<|yo (yT [iX r,uX (mkU (qaT d)).b0,uX (mkU (qaT d)).b1,uX (mkU (qaT d)).b2,iX (mkU (qaT d)).n,.string v,.slice (o.map at0) n cap,.string C,iX t] ei fun em en ap=>?_);have eo:Ch (srB sr rv) w em:=zt eh ap (fun i hi (h:i=g)=>by have:=q;omega);have ep:=ej.ch ap (fun b e (h:b=g)=>al b e h);have er:=ek.ch ap (fun(h:rv=g)=>by have:=q;have:=hS.rd.lt;omega) (fun(h:D=g)=>by have:=q;have:=hS.rd.dlt;omega);have es:=eg.ch ap (fun(h:sr=g)=>by have:=q;have:=hS.blk.lt;omega);refine ye<|q9 (qfZ (.agg #[iX r,uX (mkU (qaT d)).b0,uX (mkU (qaT d)).b1,uX (mkU (qaT d)).b2,iX (mkU (qaT d)).n,.string v,.slice (o.map at0) n cap,.string C,iX t]) (.a (en.cs 0 9) .z) ?_);rw[qgc P J ac ag aj hG.symm an]at hP;simp only[ib]at hP;obtain⟨rfl,rfl,rfl⟩:=hP;have et:false=(fine&&qG (PS.mk r (mkU (qaT d)) v l C t)):=by rw[aG];rfl
 exact⟨o,n,cap,rfl,ep,A,⟨by rw[<-et];exact es,er,hS.ne,hS.nd⟩,eo⟩
end Go.Proofs.YtjjcnhgpccancaaGreatDoor.X
