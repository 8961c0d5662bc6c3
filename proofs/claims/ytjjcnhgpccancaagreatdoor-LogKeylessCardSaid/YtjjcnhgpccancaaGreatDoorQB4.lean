/- What the proofs of LogKeys, LogBack, LogKeyless need, part 4: the walks of the program's functions and the plain laws about them. -/
import Derived.Test.YtjjcnhgpccancaaGreatDoorQB3
import Derived.Laws.Strings
set_option linter.unusedSimpArgs false
set_option linter.unusedVariables false
set_option maxHeartbeats 4000000
namespace Go.Proofs.YtjjcnhgpccancaaGreatDoor.X
open Go Go.RowKit Go.Proofs.YtjjcnhgpccancaaGreatDoor
theorem qgs {w:World}{ao:Option Nat}{an cc:Nat}{l:List Int}{K:Nat->Prop}(h:IntsAt w .i64 ao an cc l K)(a:Ac)(ha:a.params=l)(i:Nat):Calls Tryz.prog 188 [.agg #[iX a.kind,rX a.rune,uX a.last,.string a.marks,.slice (ao.map at0) an cc,.string a.text],iX ((i:Nat):Int)].toArray w fun e w'=>e= .returned (iX (qq a.params i))/\Ch (fun _=>False) w w':=by
 subst ha;obtain⟨d,c,g,f⟩:=h;cases ao with
 |none=>
  have e:a.params=[]:=by have:=d.1 rfl;simpa using this
  rw[e]at c;subst c;rw[e];exact qmK i _ _ _ _ _ _ _ w
 |some b=>exact qmI b i _ _ _ _ _ an cc _ w d (f b rfl).2 c
theorem qbt {w:World}{ao:Option Nat}{an cc:Nat}{l:List Int}{K:Nat->Prop}(h:IntsAt w .i64 ao an cc l K)(a:Ac)(ha:a.params=l):Calls Tryz.prog 202 [.agg #[iX a.kind,rX a.rune,uX a.last,.string a.marks,.slice (ao.map at0) an cc,.string a.text]].toArray w fun e w'=>e= .returned (iX (qaQ a.params))/\Ch (fun _=>False) w w':=by
 subst ha;obtain⟨d,c,i,g⟩:=h;by_cases f:an=0
 ·subst f;have e:a.params=[]:=List.eq_nil_of_length_eq_zero c;rw[e];exact qmL _ _ _ _ _ _ _ w
 cases ao with
 |none=>
  have e:a.params=[]:=by have:=d.1 rfl;simpa using this
  rw[e]at c;exact absurd c.symm f
 |some b=>exact qmJ b _ _ _ _ _ an cc _ w d (g b rfl).2 c (by omega)
theorem qkT {w:World}{ao:Option Nat}{an cc:Nat}{l:List Int}{K:Nat->Prop}(h:IntsAt w .i64 ao an cc l K)(s:Sty)(hn:an<=1000):Calls Tryz.prog 190 [.agg #[.bool s.bold,.bool s.under,.bool s.turned,iX s.fore,iX s.back],.slice (ao.map at0) an cc].toArray w fun e w'=>e= .returned (.agg (qcn s l).vals.toArray)/\Ch (fun _=>False) w w':=by
 obtain⟨c,a,g,f⟩:=h;by_cases d:an=0
 ·subst d;have e:l=[]:=List.eq_nil_of_length_eq_zero a;rw[e];exact qjv _ _ s w
 cases ao with
 |none=>
  have e:l=[]:=by have:=c.1 rfl;simpa using this
  rw[e]at a;exact absurd a.symm d
 |some b=>exact qju b an cc l s w c (f b rfl).2 a (by omega) hn
theorem qmY (T:TS):(qeE T).size<=7:=by
 have a:=qdk ((if T.origin=true then T.cursor.y-T.top else T.cursor.y)+1);have b:=qdk (T.cursor.x+1);unfold qeE;rw[ByteArray.size_append,ByteArray.size_append,qjJ];omega
theorem qhG {w:World}{t:Nat}{W H:Int}{T:TS}{F:Nat->Prop}(hA:TermAt w t T F)(hT:qag w)(hL:Lim W H T)(n:Int):Calls Tryz.prog 184 [pX t,iX n].toArray w fun e w'=>e= .returned (.tuple #[])/\TermAt w' t (qbs T n) (more F w w')/\Ch F w w':=qjx hA hT (by have:=hL.bk;omega) n
theorem up_any2 (g:Nat)(G:Gr)(F:Nat->Prop)(p1 p2 n:Int)(s:Sty)(w:World)(hT:qag w)(hG:GridAt w g G F):Calls Tryz.prog 197 [pX g,iX p1,iX p2,iX n,.agg #[.bool s.bold,.bool s.under,.bool s.turned,iX s.fore,iX s.back]].toArray w fun e w'=> ∃v,e= .returned v/\GridAt w' g (upG G p1 p2 n s) (more F w w')/\Ch F w w':=
  (up_any g G F p1 p2 n s w hT hG).mono fun _ w' ⟨_,_,_,_,F',_,he,_,_,h,hF,_,_,hc⟩=>⟨_,he,h.mono hF (qbV hG hc.size),hc⟩
theorem qoy {w:World}{t:Nat}{W H:Int}{T:TS}{F:Nat->Prop}(hA0:TermAt w t T F)(hT:LT w)(hL:Lim W H T){ao:Option Nat}{an cc:Nat}{ac:Ac}(hV:IntsAt w .i64 ao an cc ac.params (fun b=> ¬F b/\b<w.heap.size))(hV8:an<=8)(hVb:∀x∈ac.params,0<=x/\x<=9999):Calls Tryz.prog 203 [pX t,.agg #[iX ac.kind,rX ac.rune,uX ac.last,.string ac.marks,.slice (ao.map at0) an cc,.string ac.text]].toArray w fun e w'=>e= .returned (.tuple #[])/\TermAt w' t (qcJ T ac.last (qaQ ac.params)) (more F w w')/\Ch F w w':=by
 have h:=Sep.startT hA0;have hg:=Gz.of hA0;have hM:=hL;have y:=hM.all;refine yA Tryz.func203 rfl<|ysr<|yo (zN [iX ac.kind,rX ac.rune,uX ac.last,.string ac.marks,.slice (ao.map at0) an cc,.string ac.text] 190 h fun u A h=>?_);refine ye<|ysr<|yp 1 [] (.a (h.cs 1 0 6) .z)<|yo (yQ (h.look (qbt (h.ints hV) ac rfl)) fun u h=>?_);refine yz 3<|qa<|ysr<|yp 4 [] (.l (h.c 1 2) .z)<|yw [11] (rE ac.last 103) (fun v=>?_) fun v=>?_
 ·refine yz 8<|yc (rE (qaQ ac.params) 0) (fun o=>?_) fun o=>?_
  ·refine zD [9] h fun u h=>yd (uL 0 9) [] (.l (h.tc 0 2) (.i T.cursor.x (60) .z))<|yK 9 (zTi 0 ({T with tabs:=(fun i=>if i=(T.cursor.x:Int).toNat then false else T.tabs i)}:TS) (28+(T.cursor.x:Int).toNat*1) [.bool false] h (fun _ _ _ _=>qfZ T _ _ _ _ _ (by omega) _) fun u h=>?_);refine q8<|yDe (nB (qR ?_));refine h.tfin hg ?_;simp[qcJ, *]
  refine ysr<|yp 4 [] (.l (h.c 1 2) .z)<|yw [28] (rE ac.last 103) (fun r=>?_) fun r=>?_
  ·refine yz 8<|yc (rE (qaQ ac.params) 3) (fun k=>?_) fun k=>?_
   ·refine q7<|yq 4<|yo (zT 0 ({T with tabs:=(fun _=>false)}:TS) h fun u h=>?_);refine yE (nB (qR ?_));refine h.tfin hg ?_;simp[qcJ, *]
   refine ysr<|yp 4 [] (.l (h.c 1 2) .z)<|yw [40] (rE ac.last 104) (fun g=>?_) fun g=>?_
   ·exfalso;omega
   refine yp 9 [] (.l (h.c 1 2) .z)<|yw [45] (rE ac.last 108) (fun d=>?_) fun d=>?_
   ·exfalso;omega
   refine yz 13<|ycf<|ysr<|yp 4 [] (.l (h.c 1 2) .z)<|yw [59] (rE ac.last 110) (fun f=>?_) fun f=>?_
   ·exfalso;omega
   refine yz 8<|ycf<|ysr<|yp 4 [] (.l (h.c 1 2) .z)<|yw [69] (rE ac.last 110) (fun j=>?_) fun j=>?_
   ·exfalso;omega
   refine yz 8<|ycf<|ysr<|yp 4 [] (.l (h.c 1 2) .z)<|yw [83] (rE ac.last 99) (fun s=>?_) fun s=>?_
   ·exfalso;omega
   refine yz 8<|ycf<|qk (nB (qR ?_));refine h.tfin hg ?_;simp[qcJ, *]
  exfalso;omega
 refine yz 8<|ycf<|ysr<|yp 4 [] (.l (h.c 1 2) .z)<|yw [28] (rE ac.last 103) (fun o=>?_) fun o=>?_
 ·exfalso;omega
 refine yz 8<|ycf<|ysr<|yp 4 [] (.l (h.c 1 2) .z)<|yw [40] (rE ac.last 104) (fun r=>?_) fun r=>?_
 ·refine yz 13<|yc (rE (qaQ ac.params) 4) (fun k=>?_) fun k=>?_
  ·refine q7<|yp 6 [] (.l (h.c 1 2) .z)<|yo (zT 0 ({T with insert:=((ac.last:Int)==104)}:TS) h fun u h=>?_);refine yE (nB (qR ?_));refine h.tfin hg ?_;simp[qcJ, *]
  refine ysr<|yp 4 [] (.l (h.c 1 2) .z)<|yw [59] (rE ac.last 110) (fun g=>?_) fun g=>?_
  ·exfalso;omega
  refine yz 8<|ycf<|ysr<|yp 4 [] (.l (h.c 1 2) .z)<|yw [69] (rE ac.last 110) (fun d=>?_) fun d=>?_
  ·exfalso;omega
  refine yz 8<|ycf<|ysr<|yp 4 [] (.l (h.c 1 2) .z)<|yw [83] (rE ac.last 99) (fun f=>?_) fun f=>?_
  ·exfalso;omega
  refine yz 8<|ycf<|qk (nB (qR ?_));refine h.tfin hg ?_;simp[qcJ, *]
 refine yp 9 [] (.l (h.c 1 2) .z)<|yw [45] (rE ac.last 108) (fun k=>?_) fun k=>?_
 ·refine yz 13<|yc (rE (qaQ ac.params) 4) (fun g=>?_) fun g=>?_
  ·refine q7<|yp 6 [] (.l (h.c 1 2) .z)<|yo (zT 0 ({T with insert:=((ac.last:Int)==104)}:TS) h fun u h=>?_);refine yE (nB (qR ?_));refine h.tfin hg ?_;simp[qcJ, *]
  refine ysr<|yp 4 [] (.l (h.c 1 2) .z)<|yw [59] (rE ac.last 110) (fun d=>?_) fun d=>?_
  ·exfalso;omega
  refine yz 8<|ycf<|ysr<|yp 4 [] (.l (h.c 1 2) .z)<|yw [69] (rE ac.last 110) (fun f=>?_) fun f=>?_
  ·exfalso;omega
  refine yz 8<|ycf<|ysr<|yp 4 [] (.l (h.c 1 2) .z)<|yw [83] (rE ac.last 99) (fun j=>?_) fun j=>?_
  ·exfalso;omega
  refine yz 8<|ycf<|qk (nB (qR ?_));refine h.tfin hg ?_;simp[qcJ, *]
 refine yz 13<|ycf<|ysr<|yp 4 [] (.l (h.c 1 2) .z)<|yw [59] (rE ac.last 110) (fun g=>?_) fun g=>?_
 ·refine yz 8<|yc (rE (qaQ ac.params) 5) (fun d=>?_) fun d=>?_
  ·refine q7<|yq 1<|yo (yQ (h.met 0 fun F hA hF=>qiu hA (h.lt hg hT) hL (⟨#[27,91,48,110]⟩:ByteArray) (by first|decide|(simp only[ByteArray.size_append];have m:(⟨#[27,91]⟩:ByteArray).size=2:=rfl;have n:(⟨#[82]⟩:ByteArray).size=1:=rfl;omega))) fun u h=>?_);refine yE (nB (qR ?_));refine h.tfin hg ?_;simp[qcJ, *]
  refine ysr<|yp 4 [] (.l (h.c 1 2) .z)<|yw [69] (rE ac.last 110) (fun f=>?_) fun f=>?_
  ·refine yz 8<|yc (rE (qaQ ac.params) 6) (fun j=>?_) fun j=>?_
   ·refine q7<|yq 2<|yo (yQ (h.peek 0 fun hI=>qox hI (h.lt hg hT) hL) fun u h=>?_);have B:=qmY T;refine yp 5 [] (.p (q:=((⟨#[27,91]⟩:ByteArray)).size+((qeE T)).size<=9223372036854775807) (by have m:(⟨#[27,91]⟩:ByteArray).size=2:=rfl;have n:(⟨#[82]⟩:ByteArray).size=1:=rfl;first|omega|(rw[ByteArray.size_append];omega)) (.p (q:=(((⟨#[27,91]⟩:ByteArray)++(qeE T))).size+((⟨#[82]⟩:ByteArray)).size<=9223372036854775807) (by have m:(⟨#[27,91]⟩:ByteArray).size=2:=rfl;have n:(⟨#[82]⟩:ByteArray).size=1:=rfl;first|omega|(rw[ByteArray.size_append];omega)) .z))<|yo (yQ (h.met 0 fun F hA hF=>qiu hA (h.lt hg hT) hL (((⟨#[27,91]⟩:ByteArray)++(qeE T))++(⟨#[82]⟩:ByteArray)) (by first|decide|(simp only[ByteArray.size_append];have m:(⟨#[27,91]⟩:ByteArray).size=2:=rfl;have n:(⟨#[82]⟩:ByteArray).size=1:=rfl;omega))) fun u h=>?_);refine yE (nB (qR ?_));refine h.tfin hg ?_;simp[qcJ, *]
   refine ysr<|yp 4 [] (.l (h.c 1 2) .z)<|yw [83] (rE ac.last 99) (fun s=>?_) fun s=>?_
   ·exfalso;omega
   refine yz 8<|ycf<|qk (nB (qR ?_));refine h.tfin hg ?_;simp[qcJ, *]
  exfalso;omega
 refine yz 8<|ycf<|ysr<|yp 4 [] (.l (h.c 1 2) .z)<|yw [69] (rE ac.last 110) (fun d=>?_) fun d=>?_
 ·exfalso;omega
 refine yz 8<|ycf<|ysr<|yp 4 [] (.l (h.c 1 2) .z)<|yw [83] (rE ac.last 99) (fun f=>?_) fun f=>?_
 ·refine yz 8<|yc (rE (qaQ ac.params) 0) (fun j=>?_) fun j=>?_
  ·refine q7<|yq 1<|yo (yQ (h.met 0 fun F hA hF=>qiu hA (h.lt hg hT) hL (⟨#[27,91,63,54,99]⟩:ByteArray) (by first|decide|(simp only[ByteArray.size_append];have m:(⟨#[27,91]⟩:ByteArray).size=2:=rfl;have n:(⟨#[82]⟩:ByteArray).size=1:=rfl;omega))) fun u h=>?_);refine yE (nB (qR ?_));refine h.tfin hg ?_;simp[qcJ, *]
  refine qk (nB (qR ?_));refine h.tfin hg ?_;simp[qcJ, *]
 refine yz 8<|ycf<|qk (nB (qR ?_));refine h.tfin hg ?_;simp[qcJ, *]
theorem edit_at {w:World}{t:Nat}{W H:Int}{T:TS}{F:Nat->Prop}(hA0:TermAt w t T F)(hT:LT w)(hL:Lim W H T){ao:Option Nat}{an cc:Nat}{ac:Ac}(hV:IntsAt w .i64 ao an cc ac.params (fun b=> ¬F b/\b<w.heap.size))(hV8:an<=8)(hVb:∀x∈ac.params,0<=x/\x<=9999)(n:Int)(hn:0<=n/\n<=100000):Calls Tryz.prog 191 [pX t,.agg #[iX ac.kind,rX ac.rune,uX ac.last,.string ac.marks,.slice (ao.map at0) an cc,.string ac.text],iX n].toArray w fun e w'=>e= .returned (.tuple #[])/\TermAt w' t (qbi T ac.last n ac.params) (more F w w')/\Ch F w w':=by
 have h:=Sep.startT hA0;have hg:=Gz.of hA0;have hM:=hL;have G:=hM.all;refine yA Tryz.func191 rfl<|ysr<|yo (zN [iX ac.kind,rX ac.rune,uX ac.last,.string ac.marks,.slice (ao.map at0) an cc,.string ac.text] 190 h fun u I h=>?_);refine ye<|ys<|zDC [18] [0,1] h fun u h=>ydF (uL 0 15) [] h.on (fun u h=>(.l (h.tc 0 2) (.l (h.tc 0 3) (.a (h.ts 0 5 5) .z))))<|yH 15 (zN [.bool false,.bool false,.bool false,iX 0,iX 0] 84 h fun u J h=>?_);refine zHa h<|ydF [16,17] [] h.on (fun u h=> .z)<|yK 18 (zs h 2 fun u h=>?_);refine q8<|yDe (nS ?_);refine ysr<|yp 7 [] (.l (h.tc 0 26) .z)<|yw [31] (rM T.top T.cursor.y) (fun s=>?_) fun s=>?_
 ·refine yp 15 [] (.l (h.tc 0 27) .z)<|ye<|ysr<|yp 2 [] (.l (h.c 1 2) .z)<|ye<|qa<|yx 2<|yc (rE ac.last 64) (fun i=>?_) fun i=>?_
  ·obtain⟨K,L,h⟩:=h.opn 0;refine zD [8] h fun u h=>yd (uL 0 8) [] (.l (h.tg 0) (.a (h.cs 2 0 5) .z))<|yK 8 (yQ (h.grd 0 fun _ hG=>qig _ _ _ (T.cursor.x) (T.cursor.y) (n) T.cursor.sty _ (h.tb hg hT.tb) hG) fun u h=>?_);refine q8<|yDe (nB (qR ?_));refine h.tfin hg ?_;simp[qbi, *]
  refine yx 2<|yc (rE ac.last 80) (fun j=>?_) fun j=>?_
  ·obtain⟨M,N,h⟩:=h.opn 0;refine zD [8] h fun u h=>yd (uL 0 8) [] (.l (h.tg 0) (.a (h.cs 2 0 5) .z))<|yK 8 (yQ (h.grd 0 fun _ hG=>qlw _ _ _ (T.cursor.x) (T.cursor.y) (n) T.cursor.sty _ (h.tb hg hT.tb) hG) fun u h=>?_);refine q8<|yDe (nB (qR ?_));refine h.tfin hg ?_;simp[qbi, *]
  refine yx 2<|yc (rE ac.last 88) (fun k=>?_) fun k=>?_
  ·obtain⟨O,P,h⟩:=h.opn 0;refine zD [10] h fun u h=>yd (uL 0 10) [] (.l (h.tg 0) (.q6 (T.cursor.x+n) (.a (h.cs 2 0 5) .z)))<|yK 10 (yQ (h.grd 0 fun _ hG=>qbb _ _ _ (T.cursor.y) (T.cursor.x) ((T.cursor.x+n)) T.cursor.sty _ (h.tb hg hT.tb) hG) fun u h=>?_);refine q8<|yDe (nB (qR ?_));refine h.tfin hg ?_;simp[qbi, *]
  refine yx 2<|yc (rE ac.last 75) (fun m=>?_) fun m=>?_
  ·refine q7<|yp 2 [] (.a (h.cs 1 0 6) .z)<|yo (yQ (h.look (qbt (h.ints hV) ac rfl)) fun u h=>?_);refine yp 6 [] (.q6 (T.cursor.y+1) .z) ?_;refine yo (yQ (h.met 0 fun F hA hF=>qdH hA (h.lt hg hT) hL ((qaQ ac.params)) (T.cursor.y) ((T.cursor.y+1)) (by constructor<;>omega)) fun u h=>?_);refine yE (nB (qR ?_));refine h.tfin hg ?_;simp[qbi, *]
  refine yx 2<|yc (rE ac.last 74) (fun o=>?_) fun o=>?_
  ·refine ys<|ysr<|yp 1 [] (.a (h.cs 1 0 6) .z)<|yo (yQ (h.look (qbt (h.ints hV) ac rfl)) fun u h=>?_);refine yz 3<|yc (rE (qaQ ac.params) 3) (fun d=>?_) fun d=>?_
   ·refine q7<|yq 3<|yo (zNil 0 h fun u h=>?_);refine ye ?_;have p:Lim W H ({T with back:=[]}:TS):={hL with bk:=by simp}
    generalize v:({T with back:=[]}:TS)=A at h p;have B:=p;have Q:=B.all;obtain⟨R,S,h⟩:=h.opn 0;refine zDC [10] [0,1,2] h fun u h=>ydF [0,1,3,4,5,6,7,8,9] [] h.on (fun u h=>(.a (h.cs 1 0 6) (.l (h.tg 0) (.l (h.gw 0).2 .z))))<|yH 2 (yQ (h.look (qbt (h.ints hV) ac rfl)) fun u h=>?_);refine zH h ?_;refine yK 10 (yQ (h.met 0 fun F hA hF=>qdH hA (h.lt hg hT) p ((qaQ ac.params)) (0) (A.grid.h) (by constructor<;>omega)) fun u h=>?_);refine q8<|yDe (nB (qR ?_));subst v;refine h.tfin hg ?_;simp[qbi, *]
   refine yk ?_;obtain⟨U,V,h⟩:=h.opn 0;refine zDC [10] [0,1,2] h fun u h=>ydF [0,1,3,4,5,6,7,8,9] [] h.on (fun u h=>(.a (h.cs 1 0 6) (.l (h.tg 0) (.l (h.gw 0).2 .z))))<|yH 2 (yQ (h.look (qbt (h.ints hV) ac rfl)) fun u h=>?_);refine zH h ?_;refine yK 10 (yQ (h.met 0 fun F hA hF=>qdH hA (h.lt hg hT) hL ((qaQ ac.params)) (0) (T.grid.h) (by constructor<;>omega)) fun u h=>?_);refine q8<|yDe (nB (qR ?_));refine h.tfin hg ?_;simp[qbi, *]
  refine yx 2<|yc (rE ac.last 76) (fun d=>?_) fun d=>?_
  ·refine yx 1<|yc (rL T.cursor.y T.bot) (fun f=>?_) fun f=>?_
   ·obtain⟨X,Y,h⟩:=h.opn 0;refine zD [11] h fun u h=>yd (uL 0 11) [] (.l (h.tg 0) (.l (h.tc 0 27) (.a (h.cs 2 0 5) .z)))<|yK 11 (yQ (h.grd 0 fun _ hG=>qfY _ _ _ (T.cursor.y) (T.bot) (n) T.cursor.sty _ (h.tb hg hT.tb) hG) fun u h=>?_);refine q8<|yDe (nB (qR ?_));refine h.tfin hg ?_;simp[qbi, *]
   refine qk (nB (qR ?_));refine h.tfin hg ?_;simp[qbi, *]
  refine yx 2<|yc (rE ac.last 77) (fun f=>?_) fun f=>?_
  ·refine yx 1<|yc (rL T.cursor.y T.bot) (fun g=>?_) fun g=>?_
   ·obtain⟨Z,a0,h⟩:=h.opn 0;refine zD [11] h fun u h=>yd (uL 0 11) [] (.l (h.tg 0) (.l (h.tc 0 27) (.a (h.cs 2 0 5) .z)))<|yK 11 (yC (h.grdV 0 fun _ hG=>up_any2 _ _ _ (T.cursor.y) (T.bot) (n) T.cursor.sty _ (h.tb hg hT.tb) hG) ?_);rintro _ u ⟨a1,rfl,h⟩;refine⟨_,rfl,?_⟩;refine q8<|yDe (nB (qR ?_));refine h.tfin hg ?_;simp[qbi, *]
   refine qk (nB (qR ?_));refine h.tfin hg ?_;simp[qbi, *]
  refine yx 2<|yc (rE ac.last 83) (fun g=>?_) fun g=>?_
  ·refine q7<|yq 2<|yo (yQ (h.met 0 fun F hA hF=>qhG hA (h.tb hg hT.tb) hL (n)) fun u h=>?_);refine yE (nB (qR ?_));refine h.tfin hg ?_;simp[qbi, *]
  refine yx 2<|yc (rE ac.last 84) (fun q=>?_) fun q=>?_
  ·obtain⟨a2,a3,h⟩:=h.opn 0;refine zD [14] h fun u h=>yd (uL 0 14) [] (.l (h.tg 0) (.l (h.tc 0 26) (.l (h.tc 0 27) (.a (h.cs 2 0 5) .z))))<|yK 14 (yQ (h.grd 0 fun _ hG=>qfY _ _ _ (T.top) (T.bot) (n) T.cursor.sty _ (h.tb hg hT.tb) hG) fun u h=>?_);refine q8<|yDe (nB (qR ?_));refine h.tfin hg ?_;simp[qbi, *]
  refine q7<|yp 2 [] (.a (h.cs 1 0 6) .z)<|yo (yQ (h.met 0 fun F hA hF=>qoy hA (h.lt hg hT) hL (h.intsF hV hF) hV8 hVb) fun u h=>?_);refine yE (nB (qR ?_));refine h.tfin hg ?_;simp[qbi, *]
 refine yz 15<|ysr<|yp 2 [] (.l (h.c 1 2) .z)<|ye<|qa<|yx 2<|yc (rE ac.last 64) (fun i=>?_) fun i=>?_
 ·obtain⟨a4,a5,h⟩:=h.opn 0;refine zD [8] h fun u h=>yd (uL 0 8) [] (.l (h.tg 0) (.a (h.cs 2 0 5) .z))<|yK 8 (yQ (h.grd 0 fun _ hG=>qig _ _ _ (T.cursor.x) (T.cursor.y) (n) T.cursor.sty _ (h.tb hg hT.tb) hG) fun u h=>?_);refine q8<|yDe (nB (qR ?_));refine h.tfin hg ?_;simp[qbi, *]
 refine yx 2<|yc (rE ac.last 80) (fun j=>?_) fun j=>?_
 ·obtain⟨a6,a7,h⟩:=h.opn 0;refine zD [8] h fun u h=>yd (uL 0 8) [] (.l (h.tg 0) (.a (h.cs 2 0 5) .z))<|yK 8 (yQ (h.grd 0 fun _ hG=>qlw _ _ _ (T.cursor.x) (T.cursor.y) (n) T.cursor.sty _ (h.tb hg hT.tb) hG) fun u h=>?_);refine q8<|yDe (nB (qR ?_));refine h.tfin hg ?_;simp[qbi, *]
 refine yx 2<|yc (rE ac.last 88) (fun k=>?_) fun k=>?_
 ·obtain⟨a8,a9,h⟩:=h.opn 0;refine zD [10] h fun u h=>yd (uL 0 10) [] (.l (h.tg 0) (.q6 (T.cursor.x+n) (.a (h.cs 2 0 5) .z)))<|yK 10 (yQ (h.grd 0 fun _ hG=>qbb _ _ _ (T.cursor.y) (T.cursor.x) ((T.cursor.x+n)) T.cursor.sty _ (h.tb hg hT.tb) hG) fun u h=>?_);refine q8<|yDe (nB (qR ?_));refine h.tfin hg ?_;simp[qbi, *]
 refine yx 2<|yc (rE ac.last 75) (fun m=>?_) fun m=>?_
 ·refine q7<|yp 2 [] (.a (h.cs 1 0 6) .z)<|yo (yQ (h.look (qbt (h.ints hV) ac rfl)) fun u h=>?_);refine yp 6 [] (.q6 (T.cursor.y+1) .z) ?_;refine yo (yQ (h.met 0 fun F hA hF=>qdH hA (h.lt hg hT) hL ((qaQ ac.params)) (T.cursor.y) ((T.cursor.y+1)) (by constructor<;>omega)) fun u h=>?_);refine yE (nB (qR ?_));refine h.tfin hg ?_;simp[qbi, *]
 refine yx 2<|yc (rE ac.last 74) (fun o=>?_) fun o=>?_
 ·refine ys<|ysr<|yp 1 [] (.a (h.cs 1 0 6) .z)<|yo (yQ (h.look (qbt (h.ints hV) ac rfl)) fun u h=>?_);refine yz 3<|yc (rE (qaQ ac.params) 3) (fun d=>?_) fun d=>?_
  ·refine q7<|yq 3<|yo (zNil 0 h fun u h=>?_);refine ye ?_;have r:Lim W H ({T with back:=[]}:TS):={hL with bk:=by simp}
   generalize C:({T with back:=[]}:TS)=D at h r;have E:=r;have aa:=E.all;obtain⟨ab,ad,h⟩:=h.opn 0;refine zDC [10] [0,1,2] h fun u h=>ydF [0,1,3,4,5,6,7,8,9] [] h.on (fun u h=>(.a (h.cs 1 0 6) (.l (h.tg 0) (.l (h.gw 0).2 .z))))<|yH 2 (yQ (h.look (qbt (h.ints hV) ac rfl)) fun u h=>?_);refine zH h ?_;refine yK 10 (yQ (h.met 0 fun F hA hF=>qdH hA (h.lt hg hT) r ((qaQ ac.params)) (0) (D.grid.h) (by constructor<;>omega)) fun u h=>?_);refine q8<|yDe (nB (qR ?_));subst C;refine h.tfin hg ?_;simp[qbi, *]
  refine yk ?_;obtain⟨ae,af,h⟩:=h.opn 0;refine zDC [10] [0,1,2] h fun u h=>ydF [0,1,3,4,5,6,7,8,9] [] h.on (fun u h=>(.a (h.cs 1 0 6) (.l (h.tg 0) (.l (h.gw 0).2 .z))))<|yH 2 (yQ (h.look (qbt (h.ints hV) ac rfl)) fun u h=>?_);refine zH h ?_;refine yK 10 (yQ (h.met 0 fun F hA hF=>qdH hA (h.lt hg hT) hL ((qaQ ac.params)) (0) (T.grid.h) (by constructor<;>omega)) fun u h=>?_);refine q8<|yDe (nB (qR ?_));refine h.tfin hg ?_;simp[qbi, *]
 refine yx 2<|yc (rE ac.last 76) (fun d=>?_) fun d=>?_
 ·refine yx 1<|ycf<|qk (nB (qR ?_));refine h.tfin hg ?_;simp[qbi, *]
 refine yx 2<|yc (rE ac.last 77) (fun f=>?_) fun f=>?_
 ·refine yx 1<|ycf<|qk (nB (qR ?_));refine h.tfin hg ?_;simp[qbi, *]
 refine yx 2<|yc (rE ac.last 83) (fun g=>?_) fun g=>?_
 ·refine q7<|yq 2<|yo (yQ (h.met 0 fun F hA hF=>qhG hA (h.tb hg hT.tb) hL (n)) fun u h=>?_);refine yE (nB (qR ?_));refine h.tfin hg ?_;simp[qbi, *]
 refine yx 2<|yc (rE ac.last 84) (fun q=>?_) fun q=>?_
 ·obtain⟨ag,ah,h⟩:=h.opn 0;refine zD [14] h fun u h=>yd (uL 0 14) [] (.l (h.tg 0) (.l (h.tc 0 26) (.l (h.tc 0 27) (.a (h.cs 2 0 5) .z))))<|yK 14 (yQ (h.grd 0 fun _ hG=>qfY _ _ _ (T.top) (T.bot) (n) T.cursor.sty _ (h.tb hg hT.tb) hG) fun u h=>?_);refine q8<|yDe (nB (qR ?_));refine h.tfin hg ?_;simp[qbi, *]
 refine q7<|yp 2 [] (.a (h.cs 1 0 6) .z)<|yo (yQ (h.met 0 fun F hA hF=>qoy hA (h.lt hg hT) hL (h.intsF hV hF) hV8 hVb) fun u h=>?_);refine yE (nB (qR ?_));refine h.tfin hg ?_;simp[qbi, *]
theorem qcq {w:World}{t:Nat}{W H:Int}{T:TS}{F:Nat->Prop}(hA:TermAt w t T F)(hT:qag w)(hL:Lim W H T)(x y:Int)(hx: -100000<=x/\x<=100000)(hy: -100000<=y/\y<=100000):Calls Tryz.prog 189 [pX t,iX x,iX y].toArray w fun e w'=>e= .returned (.tuple #[])/\TermAt w' t (qey T x y) (more F w w')/\Ch F w w':=
  home_at hA (by have:=hL.tb;have:=hL.hb;omega) x y (by omega) (by omega)
theorem plain_at {w:World}{t:Nat}{W H:Int}{T:TS}{F:Nat->Prop}(hA0:TermAt w t T F)(hT:LT w)(hL:Lim W H T){ao:Option Nat}{an cc:Nat}{ac:Ac}(hV:IntsAt w .i64 ao an cc ac.params (fun b=> ¬F b/\b<w.heap.size))(hV8:an<=8)(hVb:∀x∈ac.params,0<=x/\x<=9999):Calls Tryz.prog 166 [pX t,.agg #[iX ac.kind,rX ac.rune,uX ac.last,.string ac.marks,.slice (ao.map at0) an cc,.string ac.text]].toArray w fun e w'=>e= .returned (.tuple #[])/\TermAt w' t (qau T ac.last ac.params) (more F w w')/\Ch F w w':=by
 have h:=Sep.startT hA0;have hg:=Gz.of hA0;have hM:=hL;have M:=hM.all;have N:=qdG ac.params 0;have O:=qjI hVb 0;have P:=qdG ac.params 1;have Q:=qjI hVb 1;refine yA Tryz.func166 rfl<|ysr<|yo (zN [iX ac.kind,rX ac.rune,uX ac.last,.string ac.marks,.slice (ao.map at0) an cc,.string ac.text] 190 h fun u R h=>?_);refine ye<|ysr<|yp 1 [] (.a (h.cs 1 0 6) .z)<|yo (yQ (h.look (qgs (h.ints hV) ac rfl 0)) fun u h=>?_);refine yz 3<|ys<|zD [] h fun u h=>yd (uL 0 12) [] (.l (h.tc 0 2) (.l (h.tc 0 3) .z))<|yDe (nS ?_);refine ysr<|yp 2 [] (.l (h.c 1 2) .z)<|ye<|qa<|yx 2<|yc (rE ac.last 65) (fun q=>?_) fun q=>?_
 ·refine yx 1<|ys<|ysr<|yp 6 [] (.l (h.tc 0 26) .z)<|ye<|yc (rM T.top T.cursor.y) (fun g=>?_) fun g=>?_
  ·refine q7<|yp 5 [] (.l (h.tc 0 26) .z)<|ye<|q7<|yp 7 [] (.q6 (T.cursor.y-(qq ac.params 0)) .z)<|yo (yQ (h.met 0 fun F hA hF=>qaH hA (h.tb hg hT.tb) hL (T.cursor.x) ((max ((T.cursor.y-(qq ac.params 0)):Int) T.top))) fun u h=>?_);refine yE (nB (qR ?_));refine h.tfin hg ?_;simp[qau, *]
  refine yk<|q7<|yp 7 [] (.q6 (T.cursor.y-(qq ac.params 0)) .z)<|yo (yQ (h.met 0 fun F hA hF=>qaH hA (h.tb hg hT.tb) hL (T.cursor.x) ((max ((T.cursor.y-(qq ac.params 0)):Int) 0))) fun u h=>?_);refine yE (nB (qR ?_));refine h.tfin hg ?_;simp[qau, *]
 refine ys<|yx 2<|yc (rE ac.last 66) (fun g=>?_) fun g=>?_
 ·refine yk<|yc (rE ac.last 66) (fun j=>?_) fun j=>?_
  ·refine ysr ?_;obtain⟨S,U,h⟩:=h.opn 0;refine yp 8 [] (.l (h.tg 0) (.l (h.gw 0).2 .z))<|ye<|ys<|ysr<|yp 6 [] (.l (h.tc 0 27) .z)<|ye<|yc (rL T.cursor.y T.bot) (fun d=>?_) fun d=>?_
   ·refine q7<|yp 5 [] (.l (h.tc 0 27) .z)<|ye<|q7<|yp 8 [] (.q6 (T.cursor.y+(qq ac.params 0)) (.q6 (T.bot-1) .z))<|yo (yQ (h.met 0 fun F hA hF=>qaH hA (h.tb hg hT.tb) hL (T.cursor.x) ((min ((T.cursor.y+(qq ac.params 0)):Int) (T.bot-1)))) fun u h=>?_);refine yE (nB (qR ?_));refine h.tfin hg ?_;simp[qau, *]
   refine yk<|q7<|yp 8 [] (.q6 (T.cursor.y+(qq ac.params 0)) (.q6 (T.grid.h-1) .z))<|yo (yQ (h.met 0 fun F hA hF=>qaH hA (h.tb hg hT.tb) hL (T.cursor.x) ((min ((T.cursor.y+(qq ac.params 0)):Int) (T.grid.h-1)))) fun u h=>?_);refine yE (nB (qR ?_));refine h.tfin hg ?_;simp[qau, *]
  exfalso;omega
 refine q7<|yz 2<|yc (rE ac.last 101) (fun j=>?_) fun j=>?_
 ·refine ysr ?_;obtain⟨V,X,h⟩:=h.opn 0;refine yp 8 [] (.l (h.tg 0) (.l (h.gw 0).2 .z))<|ye<|ys<|ysr<|yp 6 [] (.l (h.tc 0 27) .z)<|ye<|yc (rL T.cursor.y T.bot) (fun d=>?_) fun d=>?_
  ·refine q7<|yp 5 [] (.l (h.tc 0 27) .z)<|ye<|q7<|yp 8 [] (.q6 (T.cursor.y+(qq ac.params 0)) (.q6 (T.bot-1) .z))<|yo (yQ (h.met 0 fun F hA hF=>qaH hA (h.tb hg hT.tb) hL (T.cursor.x) ((min ((T.cursor.y+(qq ac.params 0)):Int) (T.bot-1)))) fun u h=>?_);refine yE (nB (qR ?_));refine h.tfin hg ?_;simp[qau, *]
  refine yk<|q7<|yp 8 [] (.q6 (T.cursor.y+(qq ac.params 0)) (.q6 (T.grid.h-1) .z))<|yo (yQ (h.met 0 fun F hA hF=>qaH hA (h.tb hg hT.tb) hL (T.cursor.x) ((min ((T.cursor.y+(qq ac.params 0)):Int) (T.grid.h-1)))) fun u h=>?_);refine yE (nB (qR ?_));refine h.tfin hg ?_;simp[qau, *]
 refine ys<|yx 2<|yc (rE ac.last 67) (fun d=>?_) fun d=>?_
 ·refine yk<|yc (rE ac.last 67) (fun k=>?_) fun k=>?_
  ·refine q7<|yp 5 [] (.q6 (T.cursor.x+(qq ac.params 0)) .z)<|yo (yQ (h.met 0 fun F hA hF=>qaH hA (h.tb hg hT.tb) hL ((T.cursor.x+(qq ac.params 0))) (T.cursor.y)) fun u h=>?_);refine yE (nB (qR ?_));refine h.tfin hg ?_;simp[qau, *]
  exfalso;omega
 refine q7<|yz 2<|yc (rE ac.last 97) (fun k=>?_) fun k=>?_
 ·refine q7<|yp 5 [] (.q6 (T.cursor.x+(qq ac.params 0)) .z)<|yo (yQ (h.met 0 fun F hA hF=>qaH hA (h.tb hg hT.tb) hL ((T.cursor.x+(qq ac.params 0))) (T.cursor.y)) fun u h=>?_);refine yE (nB (qR ?_));refine h.tfin hg ?_;simp[qau, *]
 refine yx 2<|yc (rE ac.last 68) (fun r=>?_) fun r=>?_
 ·refine q7<|yp 5 [] (.q6 (T.cursor.x-(qq ac.params 0)) .z)<|yo (yQ (h.met 0 fun F hA hF=>qaH hA (h.tb hg hT.tb) hL ((T.cursor.x-(qq ac.params 0))) (T.cursor.y)) fun u h=>?_);refine yE (nB (qR ?_));refine h.tfin hg ?_;simp[qau, *]
 refine ys<|yx 2<|yc (rE ac.last 71) (fun s=>?_) fun s=>?_
 ·refine yk<|yc (rE ac.last 71) (fun m=>?_) fun m=>?_
  ·refine q7<|yp 4 [] (.q6 ((qq ac.params 0)-1) .z)<|yo (yQ (h.met 0 fun F hA hF=>qaH hA (h.tb hg hT.tb) hL (((qq ac.params 0)-1)) (T.cursor.y)) fun u h=>?_);refine yE (nB (qR ?_));refine h.tfin hg ?_;simp[qau, *]
  exfalso;omega
 refine q7<|yz 2<|yc (rE ac.last 96) (fun m=>?_) fun m=>?_
 ·refine q7<|yp 4 [] (.q6 ((qq ac.params 0)-1) .z)<|yo (yQ (h.met 0 fun F hA hF=>qaH hA (h.tb hg hT.tb) hL (((qq ac.params 0)-1)) (T.cursor.y)) fun u h=>?_);refine yE (nB (qR ?_));refine h.tfin hg ?_;simp[qau, *]
 refine yx 2<|yc (rE ac.last 100) (fun v=>?_) fun v=>?_
 ·refine q7<|yp 4 [] (.q6 (T.cursor.x+1) .z) ?_;refine yo (yQ (h.met 0 fun F hA hF=>qcq hA (h.tb hg hT.tb) hL ((T.cursor.x+1)) ((qq ac.params 0)) (by constructor<;>omega) (by constructor<;>omega)) fun u h=>?_);refine yE (nB (qR ?_));refine h.tfin hg ?_;simp[qau, *]
 refine ys<|yx 2<|yc (rE ac.last 72) (fun A=>?_) fun A=>?_
 ·refine yk<|yc (rE ac.last 72) (fun n=>?_) fun n=>?_
  ·refine q7<|yp 2 [] (.a (h.cs 1 0 6) .z)<|yo (yQ (h.look (qgs (h.ints hV) ac rfl 1)) fun u h=>?_);refine yq 4 ?_;refine yo (yQ (h.met 0 fun F hA hF=>qcq hA (h.tb hg hT.tb) hL ((qq ac.params 1)) ((qq ac.params 0)) (by constructor<;>omega) (by constructor<;>omega)) fun u h=>?_);refine yE (nB (qR ?_));refine h.tfin hg ?_;simp[qau, *]
  exfalso;omega
 refine q7<|yz 2<|yc (rE ac.last 102) (fun n=>?_) fun n=>?_
 ·refine q7<|yp 2 [] (.a (h.cs 1 0 6) .z)<|yo (yQ (h.look (qgs (h.ints hV) ac rfl 1)) fun u h=>?_);refine yq 4 ?_;refine yo (yQ (h.met 0 fun F hA hF=>qcq hA (h.tb hg hT.tb) hL ((qq ac.params 1)) ((qq ac.params 0)) (by constructor<;>omega) (by constructor<;>omega)) fun u h=>?_);refine yE (nB (qR ?_));refine h.tfin hg ?_;simp[qau, *]
 refine yx 2<|yc (rE ac.last 109) (fun B=>?_) fun B=>?_
 ·refine zD [8,12] h fun u h=>yd (uL 0 8) [] (.a (h.ts 0 5 5) (.l (h.c 1 4) .z))<|yK 8 (yQ (h.look (qkT (h.ints hV) T.cursor.sty (by omega))) fun u h=>?_);refine q8<|yd (uL 9 3) [] .z<|yK 12 (zT 0 ({T with cursor:=(Cur.mk T.cursor.x T.cursor.y T.cursor.late (qcn T.cursor.sty ac.params))}:TS) h fun u h=>?_);refine q8<|yDe (nB (qR ?_));refine h.tfin hg ?_;simp[qau, *]
 refine yx 2<|yc (rE ac.last 114) (fun C=>?_) fun C=>?_
 ·rcases ao with _|ab
  ·have G:ac.params=[]:=by have:=hV.1.1 rfl;simpa using this
   have Y:an=0:=by have:=hV.2.1;rw[G]at this;exact this.symm
   have D:ac.params.length=an:=hV.2.1;refine ysr ?_;obtain⟨Z,a0,h⟩:=h.opn 0;refine yp 8 [] (.l (h.tg 0) (.l (h.gw 0).2 .z))<|ye<|ys<|ysr<|yp 5 [] (.l (h.c 1 4) .z)<|yw [144] (rL 1 ((an:Nat):Int)) (fun p=>?_) fun p=>?_
   ·exfalso;omega
   refine yz 11<|ycf<|yk<|yx 3<|yc (rL (qq ac.params 0) T.grid.h) (fun f=>?_) fun f=>?_
   ·refine ysr<|yp 7 [] (.q6 ((qq ac.params 0)-1) .z)<|yo (zT 0 ({T with top:=((qq ac.params 0)-1)}:TS) h fun u h=>?_);refine yq 10<|yo (zT 0 ({T with top:=((qq ac.params 0)-1),bot:=T.grid.h}:TS) h fun u h=>?_);refine ye<|q7<|yq 1 ?_;have I:Lim W H ({T with top:=((qq ac.params 0)-1),bot:=T.grid.h}:TS):={hL with tb:=⟨(show(0:Int)<=((qq ac.params 0)-1) by omega),(show(((qq ac.params 0)-1):Int)<T.grid.h by omega),(show(T.grid.h:Int)<=H by omega)⟩}
    refine yo (yQ (h.met 0 fun F hA hF=>qcq hA (h.tb hg hT.tb) I (1) (1) (by constructor<;>omega) (by constructor<;>omega)) fun u h=>?_);refine yE (nB (qR ?_));refine h.tfin hg ?_;simp only[qau,q,g,j,d,k,r,s,m,v,A,n,B,C,p,f,D,↓reduceIte,Int.reduceEq,Int.reduceLT,Int.reduceLE,sB]
   refine qk (nB (qR ?_));refine h.tfin hg ?_;simp only[qau,q,g,j,d,k,r,s,m,v,A,n,B,C,p,f,D,↓reduceIte,Int.reduceEq,Int.reduceLT,Int.reduceLE,sB]
  have D:ac.params.length=an:=hV.2.1;have a1:=qaK hVb (by decide) 1;refine ysr ?_;obtain⟨a2,a3,h⟩:=h.opn 0;refine yp 8 [] (.l (h.tg 0) (.l (h.gw 0).2 .z))<|ye<|ys<|ysr<|yp 5 [] (.l (h.c 1 4) .z)<|yw [144] (rL 1 ((an:Nat):Int)) (fun p=>?_) fun p=>?_
  ·refine yp 11 [] (.l (h.c 1 4) (.i 1 (an) (.l (o:=1) (qil (h.ints hV).1 1 (by omega)) .z)))<|ye<|yc (rL 0 (ac.params.getD 1 0)) (fun f=>?_) fun f=>?_
   ·refine zD [] h fun u h=>yd (uL 0 13) [] (.l (h.c 1 4) (.i 1 (an) (.l (o:=1) (qil (h.ints hV).1 1 (by omega)) (.l (h.tg 0) (.l (h.gw 0).2 .z)))))<|yDe (nS ?_);refine yx 3<|yc (rL (qq ac.params 0) (min ((ac.params.getD 1 0):Int) T.grid.h)) (fun E=>?_) fun E=>?_
    ·refine ysr<|yp 7 [] (.q6 ((qq ac.params 0)-1) .z)<|yo (zT 0 ({T with top:=((qq ac.params 0)-1)}:TS) h fun u h=>?_);refine yq 10<|yo (zT 0 ({T with top:=((qq ac.params 0)-1),bot:=(min ((ac.params.getD 1 0):Int) T.grid.h)}:TS) h fun u h=>?_);refine ye<|q7<|yq 1 ?_;have J:Lim W H ({T with top:=((qq ac.params 0)-1),bot:=(min ((ac.params.getD 1 0):Int) T.grid.h)}:TS):={hL with tb:=⟨(show(0:Int)<=((qq ac.params 0)-1) by omega),(show(((qq ac.params 0)-1):Int)<(min ((ac.params.getD 1 0):Int) T.grid.h) by omega),(show((min ((ac.params.getD 1 0):Int) T.grid.h):Int)<=H by omega)⟩}
     refine yo (yQ (h.met 0 fun F hA hF=>qcq hA (h.tb hg hT.tb) J (1) (1) (by constructor<;>omega) (by constructor<;>omega)) fun u h=>?_);refine yE (nB (qR ?_));refine h.tfin hg ?_;simp only[qau,q,g,j,d,k,r,s,m,v,A,n,B,C,p,f,E,D,↓reduceIte,Int.reduceEq,Int.reduceLT,Int.reduceLE,sB]
    refine qk (nB (qR ?_));refine h.tfin hg ?_;simp only[qau,q,g,j,d,k,r,s,m,v,A,n,B,C,p,f,E,D,↓reduceIte,Int.reduceEq,Int.reduceLT,Int.reduceLE,sB]
   refine yk<|yx 3<|yc (rL (qq ac.params 0) T.grid.h) (fun E=>?_) fun E=>?_
   ·refine ysr<|yp 7 [] (.q6 ((qq ac.params 0)-1) .z)<|yo (zT 0 ({T with top:=((qq ac.params 0)-1)}:TS) h fun u h=>?_);refine yq 10<|yo (zT 0 ({T with top:=((qq ac.params 0)-1),bot:=T.grid.h}:TS) h fun u h=>?_);refine ye<|q7<|yq 1 ?_;have K:Lim W H ({T with top:=((qq ac.params 0)-1),bot:=T.grid.h}:TS):={hL with tb:=⟨(show(0:Int)<=((qq ac.params 0)-1) by omega),(show(((qq ac.params 0)-1):Int)<T.grid.h by omega),(show(T.grid.h:Int)<=H by omega)⟩}
    refine yo (yQ (h.met 0 fun F hA hF=>qcq hA (h.tb hg hT.tb) K (1) (1) (by constructor<;>omega) (by constructor<;>omega)) fun u h=>?_);refine yE (nB (qR ?_));refine h.tfin hg ?_;simp only[qau,q,g,j,d,k,r,s,m,v,A,n,B,C,p,f,E,D,↓reduceIte,Int.reduceEq,Int.reduceLT,Int.reduceLE,sB]
   refine qk (nB (qR ?_));refine h.tfin hg ?_;simp only[qau,q,g,j,d,k,r,s,m,v,A,n,B,C,p,f,E,D,↓reduceIte,Int.reduceEq,Int.reduceLT,Int.reduceLE,sB]
  refine yz 11<|ycf<|yk<|yx 3<|yc (rL (qq ac.params 0) T.grid.h) (fun f=>?_) fun f=>?_
  ·refine ysr<|yp 7 [] (.q6 ((qq ac.params 0)-1) .z)<|yo (zT 0 ({T with top:=((qq ac.params 0)-1)}:TS) h fun u h=>?_);refine yq 10<|yo (zT 0 ({T with top:=((qq ac.params 0)-1),bot:=T.grid.h}:TS) h fun u h=>?_);refine ye<|q7<|yq 1 ?_;have L:Lim W H ({T with top:=((qq ac.params 0)-1),bot:=T.grid.h}:TS):={hL with tb:=⟨(show(0:Int)<=((qq ac.params 0)-1) by omega),(show(((qq ac.params 0)-1):Int)<T.grid.h by omega),(show(T.grid.h:Int)<=H by omega)⟩}
   refine yo (yQ (h.met 0 fun F hA hF=>qcq hA (h.tb hg hT.tb) L (1) (1) (by constructor<;>omega) (by constructor<;>omega)) fun u h=>?_);refine yE (nB (qR ?_));refine h.tfin hg ?_;simp only[qau,q,g,j,d,k,r,s,m,v,A,n,B,C,p,f,D,↓reduceIte,Int.reduceEq,Int.reduceLT,Int.reduceLE,sB]
  refine qk (nB (qR ?_));refine h.tfin hg ?_;simp only[qau,q,g,j,d,k,r,s,m,v,A,n,B,C,p,f,D,↓reduceIte,Int.reduceEq,Int.reduceLT,Int.reduceLE,sB]
 refine q7<|yp 3 [] (.a (h.cs 1 0 6) .z)<|yo (yQ (h.met 0 fun F hA hF=>edit_at hA (h.lt hg hT) hL (h.intsF hV hF) hV8 hVb ((qq ac.params 0)) (by omega)) fun u h=>?_);refine yE (nB (qR ?_));refine h.tfin hg ?_;simp[qau, *]
theorem turn_at {w:World}{t:Nat}{W H:Int}{T:TS}{F:Nat->Prop}(hA0:TermAt w t T F)(hT:LT w)(hL:Lim W H T)(b:Bool):Calls Tryz.prog 192 [pX t,.bool b].toArray w fun e w'=>e= .returned (.tuple #[])/\TermAt w' t (qkS T b) (more F w w')/\Ch F w w':=by
 obtain⟨g,o,ba,bn,bc,pa,pn,pc,F1,F2,FB,FP,hI⟩:=hA0;have hA0:TermAt w t T F:=⟨g,o,ba,bn,bc,pa,pn,pc,F1,F2,FB,FP,hI⟩
 have s:=hI.inF.1;obtain⟨gv,aZ⟩:=hI.g1.head;have b0:Df t g:=fun e=>hI.t1 (e▸hI.g1.inF);obtain⟨⟨b1,b2⟩,⟨b3,b4⟩,b5,b6⟩:=hI.g1.ok;have ac:=hL;have b7:=ac.all;obtain⟨b8,ad⟩:=hI.g2.head;have f:Df t o:=fun e=>hI.t2 (e▸hI.g2.inF);refine yA Tryz.func192 rfl<|ys<|ysr<|yp 6 [] (.l (hI.blk.c 95) .z)<|ye<|yc (rY (b==T.alt)) (fun m=>?_) fun m=>?_
 ·refine q9 (rS (yR0 ?_));have N:=hI.cht (Ch.refl (· =t) w);have ae:=hI.pk1 hI N;refine⟨rfl,TermAt.eq' ae ?_,N⟩;exact if_pos m
 refine yk<|ysr<|yq 4<|yo (yS hI.blk fun b9 af O=>?_);have ag:=zt (Ch.refl (· =t) w) O (fun i hi (h:i=t)=>h);have ah:=ad.ch O (fun h=>f h.symm);refine ye<|ys<|yD [12,15] fun bb bd v=>?_;have ai:=zt ag v eZ;have aj:=ah.ch v id;have A:=af.ch v id;refine yd (uL 0 12) [] (.l (A.c 1) (.l (A.c 0) .z))<|yK 12 (yS A fun bf ak P=>?_);have al:=zt ai P (fun i hi (h:i=t)=>h);have am:=aj.ch P (fun h=>f h.symm);refine q8<|yd [13,14] [] .z<|yK 15 (yS ak fun bg an Q=>?_);have ao:=zt al Q (fun i hi (h:i=t)=>h);have ap:=am.ch Q (fun h=>f h.symm);refine q8<|yDe (nS ?_);refine ys<|yD [12,15] fun bh bi B=>?_;have aq:=zt ao B eZ;have ar:=ap.ch B id;have au:=an.ch B id;have C:Blk _ t (TS.vals ({T with grid:=T.other,other:=T.grid,alt:=b}:TS) o g (.slice ba bn bc) (.slice pa pn pc)) qap:=Blk.to au (by kernel_rfl);refine yd (uL 0 12) [] (.a (C.cs 18 8) (.a (C.cs 2 8) .z))<|yK 12 (yS C fun bj av R=>?_);have ax:=zt aq R (fun i hi (h:i=t)=>h);have ay:=ar.ch R (fun h=>f h.symm);refine q8<|yd [13,14] [] .z<|yK 15 (yS av fun bk S U=>?_);have D:=zt ax U (fun i hi (h:i=t)=>h);have az:=ay.ch U (fun h=>f h.symm);refine q8<|yDe (nS ?_);refine yx 1<|yc (rY b) (fun E=>?_) fun E=>?_
 ·refine ysr ?_;have V:Blk _ t (TS.vals ({T with grid:=T.other,other:=T.grid,cursor:=T.away,away:=T.cursor,alt:=b}:TS) o g (.slice ba bn bc) (.slice pa pn pc)) qap:=Blk.to S (by kernel_rfl);refine yp 7 [] (.a (V.cs 18 8) .z)<|yo (yS V fun bl X Y=>?_);have Z:=zt D Y (fun i hi (h:i=t)=>h);have aA:=az.ch Y (fun h=>f h.symm);refine ye<|ysr<|yp 8 [] (.l (X.c 0) (.l (aA.c 1) .z))<|ye<|qa ?_;have aB:Lim W H ({T with grid:=T.other,other:=T.grid,away:=T.cursor,alt:=b}:TS):={hL with aw:=⟨⟨(show(0:Int)<=T.cursor.x by omega),(show(T.cursor.x:Int)<W by omega)⟩,(show(0:Int)<=T.cursor.y by omega),(show(T.cursor.y:Int)<H by omega)⟩,g1:=⟨hL.g2.1,hL.g2.2⟩,g2:=⟨hL.g1.1,hL.g1.2⟩}
  have aC:=hI.swap (T':=({T with grid:=T.other,other:=T.grid,away:=T.cursor,alt:=b}:TS)) Z (Blk.to X (by kernel_rfl)) rfl rfl rfl rfl;have a0:=hI.cht Z;have aD:=aC.pk1 hI a0;refine qT [0,57,58] (f':=[(0,pX t),(57,iX T.other.h),(58,iX 0)])<|qx (σ:=Nat) (fun k=>[(0,pX t),(57,iX T.other.h),(58,iX ((k:Nat):Int))]) (fun k u=>k<=T.other.h.toNat/\(TermAt u t (qit ({T with grid:=T.other,other:=T.grid,away:=T.cursor,alt:=b}:TS) k) (more F w u)/\Ch F w u)) (fun k=>T.other.h.toNat-k) 0 rfl ?_ ?_
  ·exact⟨Nat.zero_le _,(TermAt.eq' aD rfl),a0⟩
  intro k G aE bm aF;obtain⟨hk,a1,I⟩:=aE;have aG:=qat I hT (fun b hb=>hI.hi b hb);have J:Lim W H (qit ({T with grid:=T.other,other:=T.grid,away:=T.cursor,alt:=b}:TS) k):=(qmW aB k)
  generalize a2:(qit ({T with grid:=T.other,other:=T.grid,away:=T.cursor,alt:=b}:TS) k)=d at a1 J;have aH:=J;have bo:=aH.all;obtain⟨aI,bp,bq,br,bs,bt,bu,bv,bw,bx,bz,bA,j⟩:=a1;obtain⟨bB,aJ⟩:=j.g1.head;have bC:Df t aI:=fun e=>j.t1 (e▸j.g1.inF);refine yx 1<|ys<|yc (rL ((k:Nat):Int) T.other.h) (fun aK=>?_) fun aK=>?_
  ·refine yk<|ys<|qa<|yx 2<|yD [13] fun aL bD n=>?_;have p:=zt (Ch.refl (· =t) G) n eZ;have aM:=qat n aG (fun _ h=>h.elim);have K:=j.blk.ch n id;have aN:=aJ.ch n id;refine yd (uL 0 13) [] (.l (K.c 0) (.l (K.c 0) (.l (aN.c 0) .z))) ?_;have a3:=j.scalar (T':=d) p K rfl rfl rfl rfl;have L:=Ch.on I p s;have bE:=a3.pk2 p hI L;have q:=a3.mono (F':=more F w aL) (fun b hb=>hb.elim .inl (fun h2=> .inr ⟨h2.1,by have:=zzs p;omega⟩)) (hI.moreOk L.size);refine yK 13 (yQ (qbb _ _ _ (((k:Nat):Int)) (0) (d.grid.w) qd7 _ aM.tb q.g1) ?_);rintro a4 ⟨aP,M⟩;obtain⟨a5,aQ⟩:=TermAt.next hA0 L (q.chF M) ⟨_,_,_,_,_,_,_,_,_,_,_,_,q.grid1 M aP (fun _ h=>h)⟩;have bF:=q.chF M;have a6:Lim W H ({d with grid:=(qaZ d.grid (((k:Nat):Int)) (0) (d.grid.w) qd7)}:TS):=J.grid (qbH _ _ _ _ _);generalize aR:({d with grid:=(qaZ d.grid (((k:Nat):Int)) (0) (d.grid.w) qd7)}:TS)=T115 at a5 a6;have aS:=a6;have bG:=aS.all;obtain⟨aT,bH,bI,bJ,bK,bL,bM,bN,bO,bP,bQ,bR,r⟩:=a5;obtain⟨bS,bT⟩:=r.g1.head;have bU:Df t aT:=fun e=>r.t1 (e▸r.g1.inF);refine q8<|yDe (nB (nS ?_));refine q7<|yp 2 [] (.q6 (((k:Nat):Int)+1) .z) ?_;have a7:=Ch.on aQ (Ch.refl (· =t) a4) s;have aU:=r.pk2 (Ch.refl (· =t) a4) hI a7;refine yE (fun a ha=>aF (k+1) _ ⟨(by omega),(TermAt.eq' aU (by subst aR;subst a2;rfl)),a7⟩ (by show T.other.h.toNat-(k+1)<T.other.h.toNat-k;omega) a (ha.kp [0,57,58]))
  have aV:k=T.other.h.toNat:=by omega
  refine ql (eS (qd (qb (qR ?_))));have a8:=Ch.on I (Ch.refl (· =t) G) s;have aW:=j.pk2 (Ch.refl (· =t) G) hI a8;subst a2;subst aV;refine⟨rfl,TermAt.eq' aW ?_,a8⟩;exact(if_neg (by rw[m];decide)).trans (if_pos E)
 refine qk (qR ?_);have aX:=hI.swap (T':=({T with grid:=T.other,other:=T.grid,cursor:=T.away,away:=T.cursor,alt:=b}:TS)) D (Blk.to S (by kernel_rfl)) rfl rfl rfl rfl;have a9:=hI.cht D;have aY:=aX.pk1 hI a9;refine⟨rfl,TermAt.eq' aY ?_,a9⟩;exact(if_neg (by rw[m];decide)).trans (if_neg (by rw[E];decide))
theorem qoz {w:World}{t:Nat}{W H:Int}{T:TS}{F:Nat->Prop}(hA0:TermAt w t T F)(hT:LT w)(hL:Lim W H T)(n:Int)(b:Bool):Calls Tryz.prog 167 [pX t,iX n,.bool b].toArray w fun e w'=>e= .returned (.tuple #[])/\TermAt w' t (qbj T n b) (more F w w')/\Ch F w w':=by
 have h:=Sep.startT hA0;have hg:=Gz.of hA0;have hM:=hL;have i:=hM.all;refine yA Tryz.func167 rfl<|yx 1<|qa<|yx 2<|yc (rE n 6) (fun c=>?_) fun c=>?_
 ·refine ysr<|yq 4<|yo (zT 0 ({T with origin:=b}:TS) h fun u h=>?_);refine ye<|q7<|yq 1 ?_;have d:Lim W H ({T with origin:=b}:TS):={hL with}
  refine yo (yQ (h.met 0 fun F hA hF=>qcq hA (h.tb hg hT.tb) d (1) (1) (by constructor<;>omega) (by constructor<;>omega)) fun u h=>?_);refine yE (nB (qR ?_));refine h.tfin hg ?_;simp only[qbj, *,↓reduceIte,Int.reduceEq,Int.reduceLT,Int.reduceLE,sB]
 refine yx 2<|yc (rE n 7) (fun f=>?_) fun f=>?_
 ·refine ysr<|yq 4<|yo (zT 0 ({T with wrap:=b}:TS) h fun u h=>?_);refine ye<|q7<|yp 7 [] (.l (h.tc 0 4) .z)<|yw [27] (rY T.cursor.late) (fun a=>?_) fun a=>?_
  ·refine yq 12<|yo (zT 0 ({T with cursor:=(Cur.mk T.cursor.x T.cursor.y b T.cursor.sty),wrap:=b}:TS) h fun u h=>?_);refine yE (nB (qR ?_));refine h.tfin hg ?_;simp only[qbj, *,↓reduceIte,Int.reduceEq,Int.reduceLT,Int.reduceLE,sB]
  refine yq 12<|yo (zT 0 ({T with cursor:=(Cur.mk T.cursor.x T.cursor.y false T.cursor.sty),wrap:=b}:TS) h fun u h=>?_);refine yE (nB (qR ?_));refine h.tfin hg ?_;simp only[qbj, *,↓reduceIte,Int.reduceEq,Int.reduceLT,Int.reduceLE,sB]
 refine yx 2<|yc (rE n 25) (fun a=>?_) fun a=>?_
 ·refine q7<|yq 5<|yo (zT 0 ({T with hidden:=(!b)}:TS) h fun u h=>?_);refine yE (nB (qR ?_));refine h.tfin hg ?_;simp only[qbj, *,↓reduceIte,Int.reduceEq,Int.reduceLT,Int.reduceLE,sB]
 refine yx 2<|yc (rE n 1049) (fun g=>?_) fun g=>?_
 ·refine q7<|yq 2<|yo (yQ (h.met 0 fun F hA hF=>turn_at hA (h.lt hg hT) hL b) fun u h=>?_);refine yE (nB (qR ?_));refine h.tfin hg ?_;simp only[qbj, *,↓reduceIte,Int.reduceEq,Int.reduceLT,Int.reduceLE,sB]
 refine qk (nB (qR ?_));refine h.tfin hg ?_;simp only[qbj, *,↓reduceIte,Int.reduceEq,Int.reduceLT,Int.reduceLE,sB]
theorem qhH (l:List Int)(T:TS)(b:Bool){k:Nat}(h:k<l.length):(l.take (k+1)).foldl (fun T n=>qbj T n b) T=qbj ((l.take k).foldl (fun T n=>qbj T n b) T) (l.getD k 0) b:=by
 rw[List.take_succ_eq_append_getElem h,List.foldl_append];simp[List.getD,List.getElem?_eq_getElem h]
theorem csi_at {w:World}{t:Nat}{W H:Int}{T:TS}{F:Nat->Prop}(hA0:TermAt w t T F)(hT:LT w)(hL:Lim W H T){ao:Option Nat}{an cc:Nat}{ac:Ac}(hV:IntsAt w .i64 ao an cc ac.params (fun b=> ¬F b/\b<w.heap.size))(hV8:an<=8)(hVb:∀x∈ac.params,0<=x/\x<=9999):Calls Tryz.prog 132 [pX t,.agg #[iX ac.kind,rX ac.rune,uX ac.last,.string ac.marks,.slice (ao.map at0) an cc,.string ac.text]].toArray w fun e w'=>e= .returned (.tuple #[])/\TermAt w' t (qlG T ac) (more F w w')/\Ch F w w':=by
 have h:=Sep.startT hA0;have hg:=Gz.of hA0;have hM:=hL;have Y:=hM.all;have v:ac.params.length=an:=hV.2.1;refine yA Tryz.func132 rfl<|ysr<|yo (zN [iX ac.kind,rX ac.rune,uX ac.last,.string ac.marks,.slice (ao.map at0) an cc,.string ac.text] 190 h fun u d h=>?_);refine ye<|qa<|ysr<|yp 4 [] (.l (h.c 1 3) .z)<|ye<|yc (rY ((ac.marks).toList==(ByteArray.empty).toList)) (fun g=>?_) fun g=>?_
 ·refine q7<|yp 2 [] (.a (h.cs 1 0 6) .z)<|yo (yQ (h.met 0 fun F hA hF=>plain_at hA (h.lt hg hT) hL (h.intsF hV hF) hV8 hVb) fun u h=>?_);refine yE (nB (qR ?_));refine h.tfin hg ?_;simp only[qlG, *,↓reduceIte,Int.reduceEq,Int.reduceLT,Int.reduceLE,sB]
 refine ysr<|yp 4 [] (.l (h.c 1 3) .z)<|yw [17] (rY ((ac.marks).toList==((⟨#[63]⟩:ByteArray)).toList)) (fun j=>?_) fun j=>?_
 ·refine yp 8 [] (.l (h.c 1 2) .z)<|yw [21] (rE ac.last 104) (fun m=>?_) fun m=>?_
  ·refine yz 14<|yct<|ysr<|yp 4 [] (.l (h.c 1 4) .z)<|ye<|qa ?_;rcases ao with _|ab
   ·have p:ac.params=[]:=by have:=hV.1.1 rfl;simpa using this
    have D:an=0:=by have:=hV.2.1;rw[p]at this;exact this.symm
    refine qT [0,3,28,29,30] (f':=[(0,pX t),(3,pX d),(28,.slice none an cc),(29,iX ((an:Nat):Int)),(30,iX 0)])<|qx (σ:=Nat) (fun k=>[(0,pX t),(3,pX d),(28,.slice none an cc),(29,iX ((an:Nat):Int)),(30,iX ((k:Nat):Int))]) (fun k u=>k<=an/\Sep w F u [qav t ((ac.params.take k).foldl (fun T n=>qbj T n ((ac.last:Int)==104)) T),qbr d [iX ac.kind,rX ac.rune,uX ac.last,.string ac.marks,.slice none an cc,.string ac.text] 190]) (fun k=>an-k) 0 rfl ?_ ?_
    ·exact⟨Nat.zero_le _,h.cuts 2 rfl rfl⟩
    intro k u E Z a0;obtain⟨hk,h⟩:=E;have y:Lim W H ((ac.params.take k).foldl (fun T n=>qbj T n ((ac.last:Int)==104)) T):=(qdj hL _ _)
    generalize G:((ac.params.take k).foldl (fun T n=>qbj T n ((ac.last:Int)==104)) T)=T18 at h y;have I:=y;have a1:=I.all;refine yx 1<|ys<|yc (rL ((k:Nat):Int) ((an:Nat):Int)) (fun J=>?_) fun J=>?_
    ·exfalso;omega
    have f:k=ac.params.length:=by omega
    refine ql (eS (qd (qb (nB (qR ?_)))));subst G;subst f;refine h.tfin hg ?_;simp only[qlG,List.take_length,g,j,m,↓reduceIte,Int.reduceEq,Bool.false_eq_true,and_true,true_and,or_true,true_or,or_false,false_or]
   have v:ac.params.length=an:=hV.2.1;refine qT [0,3,28,29,30] (f':=[(0,pX t),(3,pX d),(28,.slice (some ⟨ab,0,none⟩) an cc),(29,iX ((an:Nat):Int)),(30,iX 0)])<|qx (σ:=Nat) (fun k=>[(0,pX t),(3,pX d),(28,.slice (some ⟨ab,0,none⟩) an cc),(29,iX ((an:Nat):Int)),(30,iX ((k:Nat):Int))]) (fun k u=>k<=an/\Sep w F u [qav t ((ac.params.take k).foldl (fun T n=>qbj T n ((ac.last:Int)==104)) T),qbr d [iX ac.kind,rX ac.rune,uX ac.last,.string ac.marks,.slice (some ⟨ab,0,none⟩) an cc,.string ac.text] 190]) (fun k=>an-k) 0 rfl ?_ ?_
   ·exact⟨Nat.zero_le _,h.cuts 2 rfl rfl⟩
   intro k u K a2 L;obtain⟨hk,h⟩:=K;have q:Lim W H ((ac.params.take k).foldl (fun T n=>qbj T n ((ac.last:Int)==104)) T):=(qdj hL _ _)
   generalize A:((ac.params.take k).foldl (fun T n=>qbj T n ((ac.last:Int)==104)) T)=T24 at h q;have M:=q;have a3:=M.all;refine yx 1<|ys<|yc (rL ((k:Nat):Int) ((an:Nat):Int)) (fun N=>?_) fun N=>?_
   ·refine yk<|ys<|qa<|ysr<|yp 3 [] (.i ((k:Nat):Int) (an) (.l (o:=(0+(((k:Nat):Int)).toNat*1)) (qcd (h.ints hV).1 k (by omega)) .z))<|ye<|q7<|yp 5 [] (.l (h.c 1 2) .z)<|yo (yQ (h.met 0 fun F hA hF=>qoz hA (h.lt hg hT) q ((ac.params.getD k 0)) ((ac.last:Int)==104)) fun u h=>?_);refine yE (nB (nS ?_));refine q7<|yp 2 [] (.q6 (((k:Nat):Int)+1) .z)<|yE (fun a ha=>L (k+1) _ ⟨(by omega),h.cuts 2 rfl (by subst A;exact qhH _ _ _ (by omega))⟩ (by show an-(k+1)<an-k;omega) a (ha.kp [0,3,28,29,30]))
   have f:k=ac.params.length:=by omega
   refine ql (eS (qd (qb (nB (qR ?_)))));subst A;subst f;refine h.tfin hg ?_;simp only[qlG,List.take_length,g,j,m,↓reduceIte,Int.reduceEq,Bool.false_eq_true,and_true,true_and,or_true,true_or,or_false,false_or]
  refine yp 14 [] (.l (h.c 1 2) .z)<|ye<|yc (rE ac.last 108) (fun r=>?_) fun r=>?_
  ·refine ysr<|yp 4 [] (.l (h.c 1 4) .z)<|ye<|qa ?_;rcases ao with _|ab
   ·have p:ac.params=[]:=by have:=hV.1.1 rfl;simpa using this
    have D:an=0:=by have:=hV.2.1;rw[p]at this;exact this.symm
    refine qT [0,3,28,29,30] (f':=[(0,pX t),(3,pX d),(28,.slice none an cc),(29,iX ((an:Nat):Int)),(30,iX 0)])<|qx (σ:=Nat) (fun k=>[(0,pX t),(3,pX d),(28,.slice none an cc),(29,iX ((an:Nat):Int)),(30,iX ((k:Nat):Int))]) (fun k u=>k<=an/\Sep w F u [qav t ((ac.params.take k).foldl (fun T n=>qbj T n ((ac.last:Int)==104)) T),qbr d [iX ac.kind,rX ac.rune,uX ac.last,.string ac.marks,.slice none an cc,.string ac.text] 190]) (fun k=>an-k) 0 rfl ?_ ?_
    ·exact⟨Nat.zero_le _,h.cuts 2 rfl rfl⟩
    intro k u O a4 a5;obtain⟨hk,h⟩:=O;have B:Lim W H ((ac.params.take k).foldl (fun T n=>qbj T n ((ac.last:Int)==104)) T):=(qdj hL _ _)
    generalize P:((ac.params.take k).foldl (fun T n=>qbj T n ((ac.last:Int)==104)) T)=T31 at h B;have Q:=B;have a6:=Q.all;refine yx 1<|ys<|yc (rL ((k:Nat):Int) ((an:Nat):Int)) (fun R=>?_) fun R=>?_
    ·exfalso;omega
    have f:k=ac.params.length:=by omega
    refine ql (eS (qd (qb (nB (qR ?_)))));subst P;subst f;refine h.tfin hg ?_;simp only[qlG,List.take_length,g,j,m,r,↓reduceIte,Int.reduceEq,Bool.false_eq_true,and_true,true_and,or_true,true_or,or_false,false_or]
   have v:ac.params.length=an:=hV.2.1;refine qT [0,3,28,29,30] (f':=[(0,pX t),(3,pX d),(28,.slice (some ⟨ab,0,none⟩) an cc),(29,iX ((an:Nat):Int)),(30,iX 0)])<|qx (σ:=Nat) (fun k=>[(0,pX t),(3,pX d),(28,.slice (some ⟨ab,0,none⟩) an cc),(29,iX ((an:Nat):Int)),(30,iX ((k:Nat):Int))]) (fun k u=>k<=an/\Sep w F u [qav t ((ac.params.take k).foldl (fun T n=>qbj T n ((ac.last:Int)==104)) T),qbr d [iX ac.kind,rX ac.rune,uX ac.last,.string ac.marks,.slice (some ⟨ab,0,none⟩) an cc,.string ac.text] 190]) (fun k=>an-k) 0 rfl ?_ ?_
   ·exact⟨Nat.zero_le _,h.cuts 2 rfl rfl⟩
   intro k u S a7 U;obtain⟨hk,h⟩:=S;have s:Lim W H ((ac.params.take k).foldl (fun T n=>qbj T n ((ac.last:Int)==104)) T):=(qdj hL _ _)
   generalize C:((ac.params.take k).foldl (fun T n=>qbj T n ((ac.last:Int)==104)) T)=T37 at h s;have V:=s;have a8:=V.all;refine yx 1<|ys<|yc (rL ((k:Nat):Int) ((an:Nat):Int)) (fun X=>?_) fun X=>?_
   ·refine yk<|ys<|qa<|ysr<|yp 3 [] (.i ((k:Nat):Int) (an) (.l (o:=(0+(((k:Nat):Int)).toNat*1)) (qcd (h.ints hV).1 k (by omega)) .z))<|ye<|q7<|yp 5 [] (.l (h.c 1 2) .z)<|yo (yQ (h.met 0 fun F hA hF=>qoz hA (h.lt hg hT) s ((ac.params.getD k 0)) ((ac.last:Int)==104)) fun u h=>?_);refine yE (nB (nS ?_));refine q7<|yp 2 [] (.q6 (((k:Nat):Int)+1) .z)<|yE (fun a ha=>U (k+1) _ ⟨(by omega),h.cuts 2 rfl (by subst C;exact qhH _ _ _ (by omega))⟩ (by show an-(k+1)<an-k;omega) a (ha.kp [0,3,28,29,30]))
   have f:k=ac.params.length:=by omega
   refine ql (eS (qd (qb (nB (qR ?_)))));subst C;subst f;refine h.tfin hg ?_;simp only[qlG,List.take_length,g,j,m,r,↓reduceIte,Int.reduceEq,Bool.false_eq_true,and_true,true_and,or_true,true_or,or_false,false_or]
  refine qk (nB (qR ?_));refine h.tfin hg ?_;simp only[qlG, *,↓reduceIte,Int.reduceEq,Int.reduceLT,Int.reduceLE,sB]
 refine yz 14<|ycf<|qk (nB (qR ?_));refine h.tfin hg ?_;simp only[qlG, *,↓reduceIte,Int.reduceEq,Int.reduceLT,Int.reduceLE,sB]
def TS.valsG (t:TS)(v0 v1 bk ps:Value):List Value:=v0::v1::(t.vals 0 0 bk ps).drop 2
theorem valsG_eq (t:TS)(g o:Nat)(bk ps:Value):t.valsG (.pointer (some ⟨g,0,none⟩)) (.pointer (some ⟨o,0,none⟩)) bk ps=t.vals g o bk ps:=by kernel_rfl
def qfG (T:TS)(G:Gr)(b:Int)(k:Nat):TS:=
 {grid:=G,other:=G,cursor:=cur0,saved:=cur0,away:=cur0,top:=0,bot:=b,tabs:=qis k,wrap:=true,origin:=false,insert:=false,hidden:=false,draw0:=false,draw1:=false,shift:=false,alt:=false,title:=ByteArray.empty,back:=[],parser:=T.parser,reply:=T.reply}
def qlK (T:TS)(G:Gr):TS:=
 {grid:=G,other:=G,cursor:=cur0,saved:=cur0,away:=cur0,top:=0,bot:=0,tabs:=fun _=>false,wrap:=true,origin:=false,insert:=false,hidden:=false,draw0:=false,draw1:=false,shift:=false,alt:=false,title:=ByteArray.empty,back:=[],parser:=T.parser,reply:=T.reply}
theorem tabs0_0:qis 0=fun _=>false:=by
 funext i
 unfold qis
 exact decide_eq_false (by omega)
theorem qmZ (k:Nat):qis (k+1)=fun i=>if i=(8+8*((k:Nat):Int)).toNat then true else qis k i:=by
 funext i
 unfold qis
 by_cases h:i=(8+8*((k:Nat):Int)).toNat
 ·rw[if_pos h];exact decide_eq_true (by omega)
 ·rw[if_neg h]
  by_cases h2:i % 8=0/\8<=i/\i<8+8*k
  ·rw[decide_eq_true h2];exact decide_eq_true (by omega)
  ·rw[decide_eq_false h2];exact decide_eq_false (by omega)
theorem qn0 (T:TS)(p1 p2 b:Int)(k:Nat)(hr:T.reply.size<=400)(hb:b=qi p2):Lim (qi p1) (qi p2) (qfG T (qkB p1 p2) b k):=by
 subst hb
 exact(qeG T p1 p2 hr).flags rfl rfl rfl rfl rfl rfl rfl rfl rfl
def PsAt (w:World)(t:Nat)(pa:Option Addr)(pn pc:Nat)(l:List Int)(FP:Nat->Prop):Prop:=
 (Rd w pa (l.map (Value.int .i64))/\l.length=pn/\(pa=none->pc=0)/\ ∀ad,pa=some ad->FP ad.block)/\(∃po:Option Nat,pa=po.map at0)/\ ∀b,FP b->b<w.heap.size/\gTop<=b/\b≠t
theorem start_in {w w1 w2:World}{t g o:Nat}{pa:Option Addr}{pn pc:Nat}{T T0:TS}{F1 F2 FP F:Nat->Prop}{G:Gr}(hP:PsAt w t pa pn pc T.parser.params FP)(ht:t<w.heap.size)(ht7:gTop<=t)(hp:T0.parser.params=T.parser.params)(hk:T0.back=[])(hg:T0.grid=G)(ho:T0.other=G)
  (c1:Ch (fun j=>j=t) w w1) (s1:∀b,F1 b->w.heap.size<=b/\b<w2.heap.size) (s2:∀b,F2 b->w2.heap.size<=b) (c12:w.heap.size<=w2.heap.size)
  (h1:GridAt w1 g G F1) (h2:GridAt w1 o G F2) (hb:Blk w1 t (T0.vals g o (.slice none 0 0) (.slice pa pn pc)) qap) (hF:F=fun b=>b=t\/FP b\/(w.heap.size<=b/\b<w1.heap.size)):
  TermIn w1 t g o none 0 0 pa pn pc T0 F F1 F2 (fun _=>False) FP:=by
 obtain⟨hP,hz,hf⟩:=hP
 subst hF
 exact
 {blk:=hb
  g1:=by rw[hg];exact h1
  g2:=by rw[ho];exact h2
  bk:=⟨[],⟨Rd.nil _ _,rfl,(fun x hx=>by cases hx),(fun x hx=>by cases hx),(fun ad e=>by cases e),(fun b hb=>hb.elim),fun b hb=>hb.elim⟩,hk.symm⟩
  bcap:=⟨Nat.le_refl _,fun _=>rfl⟩
  ps:=by rw[hp];exact⟨hP.1.ch c1 fun ad e e2=>(hf _ (hP.2.2.2 ad e)).2.2 e2,hP.2⟩
  pz:=hz
  bz:= .inl rfl
  t1:=fun h=>by have:=(s1 t h).1;omega
  t2:=fun h=>by have:=s2 t h;omega
  tB:=fun h=>h
  tP:=fun h=>(hf t h).2.2 rfl
  a12:=fun b x y=>by have:=s1 b x;have:=s2 b y;omega
  a1B:=fun b _ h=>h
  a2B:=fun b _ h=>h
  a1P:=fun b x y=>by have:=s1 b x;have:=hf b y;omega
  a2P:=fun b x y=>by have:=s2 b x;have:=hf b y;omega
  inF:=⟨.inl rfl,fun b h=> .inr (.inr ⟨(s1 b h).1,h1.lt b h⟩),fun b h=> .inr (.inr ⟨by have:=s2 b h;omega,h2.lt b h⟩),fun b h=>h.elim,fun b h=> .inr (.inl h)⟩
  lt:=fun b h=>h.elim (fun h=>h▸hb.lt) fun h=>h.elim (fun h=>by have:=hf b h;have:=c1.size;omega) fun h=>h.2
  hi:=fun b h=>h.elim (fun h=>h▸ht7) fun h=>h.elim (fun h=>(hf b h).2.1) fun h=>by omega}
theorem qjK {w:World}{t:Nat}{v0 v1 bk:Value}{pa:Option Addr}{pn pc:Nat}{T:TS}{FP:Nat->Prop}(hB0:Blk w t (T.valsG v0 v1 bk (.slice pa pn pc)) qap)(hP:PsAt w t pa pn pc T.parser.params FP)(ht7:gTop<=t)(hT:LT w)(hr:T.reply.size<=400)(p1 p2:Int):Calls Tryz.prog 66 [pX t,iX p1,iX p2].toArray w fun e w'=>
 e= .returned (.tuple #[])/\TermAt w' t (startT T p1 p2) (fun b=>b=t\/FP b\/(w.heap.size<=b/\b<w'.heap.size))/\Ch (fun b=>b=t\/FP b) w w':=by
 have ht:=hB0.lt;have aC:1<=qi p1/\qi p1<=60:=by unfold qi;omega
 have aD:1<=qi p2/\qi p2<=60:=by unfold qi;omega
 refine yA Tryz.func66 rfl<|ys<|yDC [17] fun aE aF s=>?_;have v:=zt (Ch.refl (· =t) w) s eZ;have x:=hB0.ch s id;have J:=qat s hT (fun _ h=>h.elim);refine ydC [0,1,2,4,5,7,8,9,10,11,12,13,14] [] (fun u hu=>(.a (qan hu (x.cs 98 9) id) (.l (qg hu (x.c 107) id) .z)))<|yH 3 (yC (qoa p1 p2 _ J.tb (by have:=ht;have:=zzs v;omega)) ?_);rintro _ K ⟨m,y,rfl,L,a1,o⟩;refine⟨_,rfl,?_⟩;have M:∀b,y b->w.heap.size<=b:=fun b hb=>Nat.le_trans (zzs v) (a1 b hb);have p:=zt v o eZ;have a2:=x.ch o id;have a3:=qat o J (fun _ h=>h.elim);refine qaM o ?_;have a4:=L.lt;have a5:=zzs p;refine yH 6 (yC (qoa p1 p2 _ a3.tb (by have:=ht;have:=zzs p;omega)) ?_);rintro _ aG ⟨A,N,rfl,a6,O,q⟩;refine⟨_,rfl,?_⟩;have a7:∀b,N b->w.heap.size<=b:=fun b hb=>Nat.le_trans (zzs p) (O b hb);have a8:=zt p q eZ;have a9:=a2.ch q id;have aa:=L.ch q iZ;refine qaM q<|ydC [15,16] [] (fun u hu=> .z)<|yK 17 (qaI 0 [pX m,pX A,iX 0,iX 0,.bool false,.bool false,.bool false,.bool false,iX 0,iX 0,iX 0,iX 0,.bool false,.bool false,.bool false,.bool false,iX 0,iX 0,iX 0,iX 0,.bool false,.bool false,.bool false,.bool false,iX 0,iX 0,iX 0,iX 0,.bool false,.bool false,.bool false,.bool false,.bool false,.bool false,.bool false,.bool false,.bool false,.bool false,.bool false,.bool false,.bool false,.bool false,.bool false,.bool false,.bool false,.bool false,.bool false,.bool false,.bool false,.bool false,.bool false,.bool false,.bool false,.bool false,.bool false,.bool false,.bool false,.bool false,.bool false,.bool false,.bool false,.bool false,.bool false,.bool false,.bool false,.bool false,.bool false,.bool false,.bool false,.bool false,.bool false,.bool false,.bool false,.bool false,.bool false,.bool false,.bool false,.bool false,.bool false,.bool false,.bool false,.bool false,.bool false,.bool false,.bool false,.bool false,.bool false,.bool false,.bool true,.bool false,.bool false,.bool false,.bool false,.bool false,.bool false,.bool false,oX,nX,iX T.parser.state,uX T.parser.utf.b0,uX T.parser.utf.b1,uX T.parser.utf.b2,iX T.parser.utf.n,.string T.parser.marks,.slice pa pn pc,.string T.parser.text,iX T.parser.within,.string T.reply] none (by kernel_rfl) a9 (qbY (by kernel_rfl)) ?_)
 intro d g B;replace g:Blk d t (TS.vals (qlK T (qkB p1 p2)) m A (nX) (.slice pa pn pc)) qap:=Blk.to g (by kernel_rfl);have P:=zt a8 B (fun i hi (h:i=t)=>h);have ab:=aa.ch B (fun b hb (h:b=t)=>by have:=M b hb;omega);have ac:=a6.ch B (fun b hb (h:b=t)=>by have:=a7 b hb;omega);obtain⟨F,C⟩:∃F:Nat->Prop,F=fun b=>b=t\/FP b\/(w.heap.size<=b/\b<d.heap.size):=⟨_,rfl⟩
 have ad:∀b,y b->w.heap.size<=b/\b<K.heap.size:=fun b hb=>⟨M b hb,a4 b hb⟩
 have hI:TermIn d t m A none 0 0 pa pn pc (qlK T (qkB p1 p2)) F y N (fun _=>False) FP:=start_in (T:=T) (w2:=K) hP ht ht7 rfl rfl rfl rfl P ad O a5 ab ac g C;have Q:F t:=hI.inF.1;have aH:TermAt d t (qlK T (qkB p1 p2)) F:=⟨_,_,_,_,_,_,_,_,_,_,_,_,hI⟩
 have D:=P;have aI:=hI.blk.lt;obtain⟨W,hW⟩:∃W,W=qi p1:=⟨_,rfl⟩
 obtain⟨H,hH⟩:∃H,H=qi p2:=⟨_,rfl⟩
 obtain⟨aJ,ae⟩:=hI.g1.head;have aK:Df t m:=fun e=>hI.t1 (e▸hI.g1.inF);refine q8<|yDe (nS ?_);refine ysr<|yp 10 [] (.l (g.c 0) (.l (ae.c 1) .z))<|yo (yS g fun aL af ag=>?_);have R:=zt (Ch.refl (· =t) d) ag (fun i hi (h:i=t)=>h);refine ye<|yx 1<|qa ?_;have ah:=hI.scalar (T':=({(qlK T (qkB p1 p2))with bot:=(qkB p1 p2).h}:TS)) R (Blk.to af (by kernel_rfl)) rfl rfl rfl rfl;have S:=hI.cht R;have ai:=ah.pk1 hI S;refine qT [0,6] (f':=[(0,pX t),(6,iX 8)])<|qx (σ:=Nat) (fun k=>[(0,pX t),(6,iX (8+8*((k:Nat):Int)))]) (fun k u=>k<=7/\(TermAt u t (qfG T (qkB p1 p2) H k) (more F d u)/\Ch F d u)) (fun k=>7-k) 0 rfl ?_ ?_
 ·exact⟨(by omega),(TermAt.eq' ai (by subst hH;show qfG T (qkB p1 p2) (qi p2) 0=_;unfold qfG;rw[tabs0_0];rfl)),S⟩
 intro k E aj aM ak;obtain⟨hk,U,V⟩:=aj;have X:Lim W H (qfG T (qkB p1 p2) H k):=(hW▸hH▸qn0 T p1 p2 (qi p2) k hr rfl)
 generalize Y:(qfG T (qkB p1 p2) H k)=j at U X;have al:=X;have aN:=al.all;obtain⟨Z,am,an,ao,ap,aq,ar,au,aO,aP,aQ,aR,f⟩:=U;obtain⟨aS,aT⟩:=f.g1.head;have aU:Df t Z:=fun e=>f.t1 (e▸f.g1.inF);refine ys<|yx 2<|yc (rL (8+8*((k:Nat):Int)) 60) (fun av=>?_) fun av=>?_
 ·refine yk<|ys<|qa<|q7<|yp 5 [] (.i (8+8*((k:Nat):Int)) (60) .z)<|yo (qaI (28+((8+8*((k:Nat):Int)):Int).toNat*1) [.bool true] none (by kernel_rfl) f.blk (by rw[qcc];simp only[List.length_cons,List.length_nil];omega) ?_);intro aw G ax;replace G:Blk aw t (TS.vals ({j with tabs:=(fun i=>if i=((8+8*((k:Nat):Int)):Int).toNat then true else j.tabs i)}:TS) Z am (.slice an ao ap) (.slice aq ar au)) qap:=Blk.to G (qfZ j _ _ _ _ _ (by omega) _);have I:=zt (Ch.refl (· =t) E) ax (fun i hi (h:i=t)=>h);refine yE (nB (nS ?_));refine q7<|yp 3 [] (.q6 ((8+8*((k:Nat):Int))+8) .z) ?_;have ay:=f.scalar (T':=({j with tabs:=(fun i=>if i=((8+8*((k:Nat):Int)):Int).toNat then true else j.tabs i)}:TS)) I G rfl rfl rfl rfl;have a0:=Ch.on V I Q;have az:=ay.pk2 I hI a0;refine yE (fun a ha=>ak (k+1) _ ⟨(by omega),(TermAt.eq' az (by subst Y;show qfG T (qkB p1 p2) H (k+1)=_;unfold qfG;rw[qmZ])),a0⟩ (by show 7-(k+1)<7-k;omega) a (by rw[show(8+8*((k+1:Nat):Int))=(8+8*((k:Nat):Int))+8 by omega];exact ha.kp [0,6]))
 have aA:k=7:=by omega
 refine ql (eS (qd (qb (qR ?_))));have r:=Ch.on V (Ch.refl (· =t) E) Q;have aB:=f.pk2 (Ch.refl (· =t) E) hI r;subst Y;subst aA hH hW;refine⟨rfl,TermAt.mono aB (fun b hb=>?_) (fun b hb=>?_),?_⟩
 ·rcases hb with hb|hb
  ·rw[C]at hb;exact hb.imp id fun h=>h.imp id fun h=>⟨h.1,by have:=zzs r;omega⟩
  exact .inr (.inr ⟨by have:=zzs D;omega,hb.2⟩)
 ·have hz:=zzs r;have aV:=zzs D;rcases hb with rfl|hb|hb
  ·exact⟨by omega,ht7⟩
  ·have:=hP.2.2 b hb;exact⟨by omega,this.2.1⟩
  exact⟨hb.2,by omega⟩
 refine zt (D.mono fun i _ h=> .inl h) r fun i hi h=>?_;rw[C]at h;exact h.imp id fun h=>h.elim id fun h=>by omega
theorem qhI {s u:ByteArray}(h:(s.toList==u.toList)=true):s=u:=by
 have h1:=eq_of_beq h
 rw[Go.ByteArray.toList_eq,Go.ByteArray.toList_eq]at h1
 obtain⟨⟨a⟩⟩:=s
 obtain⟨⟨b⟩⟩:=u
 have:a=b:=h1
 rw[this]
theorem mark40 {s:ByteArray}(h:(s.toList==(⟨#[40]⟩:ByteArray).toList)=true):s.size=1/\bt s 0=40:=by
 rw[qhI h];exact⟨rfl,rfl⟩
theorem mark41 {s:ByteArray}(h:(s.toList==(⟨#[41]⟩:ByteArray).toList)=true):s.size=1/\bt s 0=41:=by
 rw[qhI h];exact⟨rfl,rfl⟩
theorem start_at {w:World}{t:Nat}{W H:Int}{T:TS}{F:Nat->Prop}(hA:TermAt w t T F)(hT:LT w)(hL:Lim W H T)(p1 p2:Int):
  Calls Tryz.prog 66 [.pointer (some ⟨t,0,none⟩),.int .i64 p1,.int .i64 p2].toArray w fun e w'=>e= .returned (.tuple #[])/\TermAt w' t (startT T p1 p2) (more F w w')/\Ch F w w':=by
 obtain⟨g,o,ba,bn,bc,pa,pn,pc,F1,F2,FB,FP,hI⟩:=hA
 have hB:Blk w t (T.valsG (.pointer (some ⟨g,0,none⟩)) (.pointer (some ⟨o,0,none⟩)) (.slice ba bn bc) (.slice pa pn pc)) qap:=by rw[valsG_eq];exact hI.blk
 have hF:∀b,(b=t\/FP b)->F b:=fun b h=>h.elim (fun h=>h▸hI.inF.1) (hI.inF.2.2.2.2 b)
 refine(qjK hB ⟨hI.ps,hI.pz,fun b hb=>⟨hI.lt b (hF b (.inr hb)),hI.hi b (hF b (.inr hb)),fun e=>hI.tP (e▸hb)⟩⟩ (hI.hi t hI.inF.1) hT hL.rp p1 p2).mono fun e w' ⟨he,hA',hc⟩=>⟨he,hA'.mono (fun b hb=>?_) (hI.moreOk hc.size),hc.mono fun b _ h=>hF b h⟩
 rcases hb with hb|hb|hb
 ·exact .inl (hF b (.inl hb))
 ·exact .inl (hF b (.inr hb))
 ·exact .inr hb
theorem up_lim {w:World}{t:Nat}{W H:Int}{T:TS}{F:Nat->Prop}(hA:TermAt w t T F)(hT:qag w)(hL:Lim W H T):Calls Tryz.prog 165 [pX t].toArray w fun e w'=>e= .returned (.tuple #[])/\TermAt w' t (upT T) (more F w w')/\Ch F w w':=
  up_at hA hT (by have:=hL.cu;have:=hL.hb;omega)
theorem esc_at {w:World}{t:Nat}{W H:Int}{T:TS}{F:Nat->Prop}(hA0:TermAt w t T F)(hT:LT w)(hL:Lim W H T){ao:Option Nat}{an cc:Nat}{ac:Ac}(hV:IntsAt w .i64 ao an cc ac.params (fun b=> ¬F b/\b<w.heap.size))(hV8:an<=8)(hVb:∀x∈ac.params,0<=x/\x<=9999):Calls Tryz.prog 131 [pX t,.agg #[iX ac.kind,rX ac.rune,uX ac.last,.string ac.marks,.slice (ao.map at0) an cc,.string ac.text]].toArray w fun e w'=>e= .returned (.tuple #[])/\TermAt w' t (qh9 T ac) (more F w w')/\Ch F w w':=by
 have h:=Sep.startT hA0;have hg:=Gz.of hA0;have hM:=hL;have P:=hM.all;refine yA Tryz.func131 rfl<|ysr<|yo (zN [iX ac.kind,rX ac.rune,uX ac.last,.string ac.marks,.slice (ao.map at0) an cc,.string ac.text] 190 h fun u Q h=>?_);refine ye<|ys<|ysr<|yp 4 [] (.l (h.c 1 3) .z)<|yw [7] (rY ((ac.marks).toList==((⟨#[40]⟩:ByteArray)).toList)) (fun f=>?_) fun f=>?_
 ·have r:=f;obtain⟨s,v⟩:=mark40 f;refine yz 8<|yct<|ys<|ysr<|yp 4 [] (.l (h.c 1 2) .z)<|yw [15] (rE ac.last 48) (fun j=>?_) fun j=>?_
  ·refine yz 8<|yct<|zD [11] h fun u h=>yd (uL 0 11) [4] (.l (h.c 1 3) (.i 0 ((ac.marks).size) (.p (q:=InR .u8 ((bt ac.marks 0)-40)) (in8 (by omega) (by omega)) (.l (h.c 1 2) (.i ((bt ac.marks 0)-40) (2) .z))))) ?_;have hz:(((bt ac.marks 0)-40):Int).toNat=0:=by omega
   refine yK 11 (zTi 0 ({T with draw0:=((ac.last:Int)==48)}:TS) (92+(((bt ac.marks 0)-40):Int).toNat*1) [.bool ((ac.last:Int)==48)] h (fun _ _ _ _=>by rw[hz];kernel_rfl) fun u h=>?_);refine q8<|yDe (nS ?_);refine q9 (rS (yR0 ?_));refine h.tfin hg ?_;simp only[qh9,qbc, *,↓reduceIte,Int.reduceEq,Int.reduceLT,Int.reduceLE,sB]
  refine yp 8 [] (.l (h.c 1 2) .z)<|ye<|yc (rE ac.last 66) (fun d=>?_) fun d=>?_
  ·refine zD [11] h fun u h=>yd (uL 0 11) [4] (.l (h.c 1 3) (.i 0 ((ac.marks).size) (.p (q:=InR .u8 ((bt ac.marks 0)-40)) (in8 (by omega) (by omega)) (.l (h.c 1 2) (.i ((bt ac.marks 0)-40) (2) .z))))) ?_;have hz:(((bt ac.marks 0)-40):Int).toNat=0:=by omega
   refine yK 11 (zTi 0 ({T with draw0:=((ac.last:Int)==48)}:TS) (92+(((bt ac.marks 0)-40):Int).toNat*1) [.bool ((ac.last:Int)==48)] h (fun _ _ _ _=>by rw[hz];kernel_rfl) fun u h=>?_);refine q8<|yDe (nS ?_);refine q9 (rS (yR0 ?_));refine h.tfin hg ?_;simp only[qh9,qbc, *,↓reduceIte,Int.reduceEq,Int.reduceLT,Int.reduceLE,sB]
  refine yk<|q9 (rS (yR0 ?_));refine h.tfin hg ?_;simp only[qh9,qbc, *,↓reduceIte,Int.reduceEq,Int.reduceLT,Int.reduceLE,sB]
 have r:=f;refine yp 8 [] (.l (h.c 1 3) .z)<|ye<|yc (rY ((ac.marks).toList==((⟨#[41]⟩:ByteArray)).toList)) (fun g=>?_) fun g=>?_
 ·have j:=g;obtain⟨s,v⟩:=mark41 g;refine ys<|ysr<|yp 4 [] (.l (h.c 1 2) .z)<|yw [15] (rE ac.last 48) (fun d=>?_) fun d=>?_
  ·refine yz 8<|yct<|zD [11] h fun u h=>yd (uL 0 11) [4] (.l (h.c 1 3) (.i 0 ((ac.marks).size) (.p (q:=InR .u8 ((bt ac.marks 0)-40)) (in8 (by omega) (by omega)) (.l (h.c 1 2) (.i ((bt ac.marks 0)-40) (2) .z))))) ?_;have hz:(((bt ac.marks 0)-40):Int).toNat=1:=by omega
   refine yK 11 (zTi 0 ({T with draw1:=((ac.last:Int)==48)}:TS) (92+(((bt ac.marks 0)-40):Int).toNat*1) [.bool ((ac.last:Int)==48)] h (fun _ _ _ _=>by rw[hz];kernel_rfl) fun u h=>?_);refine q8<|yDe (nS ?_);refine q9 (rS (yR0 ?_));refine h.tfin hg ?_;simp only[qh9,qbc, *,↓reduceIte,Int.reduceEq,Int.reduceLT,Int.reduceLE,sB]
  refine yp 8 [] (.l (h.c 1 2) .z)<|ye<|yc (rE ac.last 66) (fun k=>?_) fun k=>?_
  ·refine zD [11] h fun u h=>yd (uL 0 11) [4] (.l (h.c 1 3) (.i 0 ((ac.marks).size) (.p (q:=InR .u8 ((bt ac.marks 0)-40)) (in8 (by omega) (by omega)) (.l (h.c 1 2) (.i ((bt ac.marks 0)-40) (2) .z))))) ?_;have hz:(((bt ac.marks 0)-40):Int).toNat=1:=by omega
   refine yK 11 (zTi 0 ({T with draw1:=((ac.last:Int)==48)}:TS) (92+(((bt ac.marks 0)-40):Int).toNat*1) [.bool ((ac.last:Int)==48)] h (fun _ _ _ _=>by rw[hz];kernel_rfl) fun u h=>?_);refine q8<|yDe (nS ?_);refine q9 (rS (yR0 ?_));refine h.tfin hg ?_;simp only[qh9,qbc, *,↓reduceIte,Int.reduceEq,Int.reduceLT,Int.reduceLE,sB]
  refine yk<|q9 (rS (yR0 ?_));refine h.tfin hg ?_;simp only[qh9,qbc, *,↓reduceIte,Int.reduceEq,Int.reduceLT,Int.reduceLE,sB]
 have j:=g;refine yk<|ys<|ysr<|yp 3 [] (.l (h.c 1 3) .z)<|ye<|yc (rN (rY ((ac.marks).toList==(ByteArray.empty).toList))) (fun d=>?_) fun d=>?_
 ·refine q9 (rS (yR0 ?_));refine h.tfin hg ?_;simp only[qh9,qbc, *,↓reduceIte,Int.reduceEq,Int.reduceLT,Int.reduceLE,sB]
 refine yk<|ysr<|yp 2 [] (.l (h.c 1 2) .z)<|ye<|qa<|yx 2<|yc (rE ac.last 55) (fun k=>?_) fun k=>?_
 ·refine q7<|yp 7 [] (.a (h.ts 0 2 8) .z)<|yo (zT 0 ({T with saved:=T.cursor}:TS) h fun u h=>?_);refine yE (nB (qR ?_));refine h.tfin hg ?_;simp only[qh9,qbc, *,↓reduceIte,Int.reduceEq,Int.reduceLT,Int.reduceLE,sB]
 refine yx 2<|yc (rE ac.last 56) (fun A=>?_) fun A=>?_
 ·refine q7<|yp 7 [] (.a (h.ts 0 10 8) .z)<|yo (zT 0 ({T with cursor:=T.saved}:TS) h fun u h=>?_);refine yE (nB (qR ?_));refine h.tfin hg ?_;simp only[qh9,qbc, *,↓reduceIte,Int.reduceEq,Int.reduceLT,Int.reduceLE,sB]
 refine yx 2<|yc (rE ac.last 68) (fun B=>?_) fun B=>?_
 ·refine ysr<|yq 1<|yo (yQ (h.met 0 fun F hA hF=>qcY hA (h.tb hg hT.tb) hL) fun u h=>?_);refine ye<|q7<|yq 4 ?_;have n:Lim W H (qbo T):=(qbI hL)
  generalize C:(qbo T)=T21 at h n;have D:=n;have R:=D.all;refine yo (zT 0 ({T21 with cursor:=(Cur.mk T21.cursor.x T21.cursor.y false T21.cursor.sty)}:TS) h fun u h=>?_);refine yE (nB (qR ?_));subst C;refine h.tfin hg ?_;simp only[qh9,qbc, *,↓reduceIte,Int.reduceEq,Int.reduceLT,Int.reduceLE,sB]
 refine yx 2<|yc (rE ac.last 69) (fun E=>?_) fun E=>?_
 ·refine ysr<|yq 1<|yo (yQ (h.met 0 fun F hA hF=>qcY hA (h.tb hg hT.tb) hL) fun u h=>?_);refine ye<|q7 ?_;have m:Lim W H (qbo T):=(qbI hL)
  generalize G:(qbo T)=I at h m;have J:=m;have S:=J.all;refine yp 6 [] (.l (h.tc 0 3) .z)<|yo (yQ (h.met 0 fun F hA hF=>qaH hA (h.tb hg hT.tb) m (0) (I.cursor.y)) fun u h=>?_);refine yE (nB (qR ?_));subst G;refine h.tfin hg ?_;simp only[qh9,qbc, *,↓reduceIte,Int.reduceEq,Int.reduceLT,Int.reduceLE,sB]
 refine yx 2<|yc (rE ac.last 77) (fun K=>?_) fun K=>?_
 ·refine ysr<|yq 1<|yo (yQ (h.met 0 fun F hA hF=>up_lim hA (h.tb hg hT.tb) hL) fun u h=>?_);refine ye<|q7<|yq 4 ?_;have o:Lim W H (upT T):=(lim_up hL)
  generalize L:(upT T)=T25 at h o;have M:=o;have U:=M.all;refine yo (zT 0 ({T25 with cursor:=(Cur.mk T25.cursor.x T25.cursor.y false T25.cursor.sty)}:TS) h fun u h=>?_);refine yE (nB (qR ?_));subst L;refine h.tfin hg ?_;simp only[qh9,qbc, *,↓reduceIte,Int.reduceEq,Int.reduceLT,Int.reduceLE,sB]
 refine yx 2<|yc (rE ac.last 72) (fun N=>?_) fun N=>?_
 ·refine zD [9] h fun u h=>yd (uL 0 9) [] (.l (h.tc 0 2) (.i T.cursor.x (60) .z))<|yK 9 (zTi 0 ({T with tabs:=(fun i=>if i=(T.cursor.x:Int).toNat then true else T.tabs i)}:TS) (28+(T.cursor.x:Int).toNat*1) [.bool true] h (fun _ _ _ _=>qfZ T _ _ _ _ _ (by omega) _) fun u h=>?_);refine q8<|yDe (nB (qR ?_));refine h.tfin hg ?_;simp only[qh9,qbc, *,↓reduceIte,Int.reduceEq,Int.reduceLT,Int.reduceLE,sB]
 refine yx 2<|yc (rE ac.last 99) (fun O=>?_) fun O=>?_
 ·obtain⟨V,X,h⟩:=h.opn 0;refine zD [15] h fun u h=>yd (uL 0 15) [] (.l (h.tg 0) (.l (h.gw 0).1 (.l (h.tg 0) (.l (h.gw 0).2 .z))))<|yK 15 (yQ (h.met 0 fun F hA hF=>start_at hA (h.lt hg hT) hL (T.grid.w) (T.grid.h)) fun u h=>?_);refine q8<|yDe (nB (qR ?_));refine h.tfin hg ?_;simp only[qh9,qbc, *,↓reduceIte,Int.reduceEq,Int.reduceLT,Int.reduceLE,sB]
 refine qk (nB (qR ?_));refine h.tfin hg ?_;simp only[qh9,qbc, *,↓reduceIte,Int.reduceEq,Int.reduceLT,Int.reduceLE,sB]
theorem act_at {w:World}{t:Nat}{W H:Int}{T:TS}{F:Nat->Prop}(hA0:TermAt w t T F)(hT:LT w)(hL:Lim W H T){ao:Option Nat}{an cc:Nat}{ac:Ac}(hV:IntsAt w .i64 ao an cc ac.params (fun b=> ¬F b/\b<w.heap.size))(hV8:an<=8)(hVb:∀x∈ac.params,0<=x/\x<=9999)(hat:ac.text.size<=1000):Calls Tryz.prog 110 [pX t,.agg #[iX ac.kind,rX ac.rune,uX ac.last,.string ac.marks,.slice (ao.map at0) an cc,.string ac.text]].toArray w fun e w'=>e= .returned (.tuple #[])/\TermAt w' t (qef T ac) (more F w w')/\Ch F w w':=by
 have h:=Sep.startT hA0;have hg:=Gz.of hA0;have hM:=hL;have p:=hM.all;refine yA Tryz.func110 rfl<|ysr<|yo (zN [iX ac.kind,rX ac.rune,uX ac.last,.string ac.marks,.slice (ao.map at0) an cc,.string ac.text] 190 h fun u q h=>?_);refine ye<|ysr<|yp 2 [] (.l (h.c 1 0) .z)<|ye<|qa<|yx 2<|yc (rE ac.kind 0) (fun d=>?_) fun d=>?_
 ·refine q7<|yp 3 [] (.l (h.c 1 1) .z)<|yo (yQ (h.met 0 fun F hA hF=>print_at hA (h.tb hg hT.tb) hL (ac.rune)) fun u h=>?_);refine yE (nB (qR ?_));refine h.tfin hg ?_;simp only[qef,qlH,d,↓reduceIte,Int.reduceEq,Int.reduceLT,Int.reduceLE,sB]
 refine yx 2<|yc (rE ac.kind 1) (fun f=>?_) fun f=>?_
 ·refine q7<|yp 3 [] (.l (h.c 1 2) .z)<|yo (yQ (h.met 0 fun F hA hF=>exec_at hA (h.tb hg hT.tb) hL (ac.last)) fun u h=>?_);refine yE (nB (qR ?_));refine h.tfin hg ?_;simp only[qef,qlH,d,f,↓reduceIte,Int.reduceEq,Int.reduceLT,Int.reduceLE,sB]
 refine yx 2<|yc (rE ac.kind 2) (fun g=>?_) fun g=>?_
 ·refine q7<|yp 2 [] (.a (h.cs 1 0 6) .z)<|yo (yQ (h.met 0 fun F hA hF=>esc_at hA (h.lt hg hT) hL (h.intsF hV hF) hV8 hVb) fun u h=>?_);refine yE (nB (qR ?_));refine h.tfin hg ?_;simp only[qef,qlH,d,f,g,↓reduceIte,Int.reduceEq,Int.reduceLT,Int.reduceLE,sB]
 refine yx 2<|yc (rE ac.kind 3) (fun i=>?_) fun i=>?_
 ·refine q7<|yp 2 [] (.a (h.cs 1 0 6) .z)<|yo (yQ (h.met 0 fun F hA hF=>csi_at hA (h.lt hg hT) hL (h.intsF hV hF) hV8 hVb) fun u h=>?_);refine yE (nB (qR ?_));refine h.tfin hg ?_;simp only[qef,qlH,d,f,g,i,↓reduceIte,Int.reduceEq,Int.reduceLT,Int.reduceLE,sB]
 refine yx 2<|yc (rE ac.kind 4) (fun k=>?_) fun k=>?_
 ·refine ysr<|yp 5 [] (.l (h.c 1 5) .z)<|yw [34] (rM 2 ((ac.text).size:Int)) (fun m=>?_) fun m=>?_
  ·refine yp 10 [] (.l (h.c 1 5) (.j 2 ((ac.text).size) .z))<|yw [39] (rY ((((ac.text).extract 0 (2:Int).toNat)).toList==((⟨#[48,59]⟩:ByteArray)).toList)) (fun n=>?_) fun n=>?_
   ·refine yz 16<|yct<|q7<|yp 6 [] (.l (h.c 1 5) (.j 2 ((ac.text).size) .z))<|yo (zT 0 ({T with title:=((ac.text).extract (2:Int).toNat (ac.text).size)}:TS) h fun u h=>?_);refine yE (nB (qR ?_));refine h.tfin hg ?_;simp only[qef,qlH,d,f,g,i,k,m,n,↓reduceIte,Int.reduceEq,Int.reduceLT,Int.reduceLE,sB]
   refine yp 16 [] (.l (h.c 1 5) (.j 2 ((ac.text).size) .z))<|ye<|yc (rY ((((ac.text).extract 0 (2:Int).toNat)).toList==((⟨#[50,59]⟩:ByteArray)).toList)) (fun o=>?_) fun o=>?_
   ·refine q7<|yp 6 [] (.l (h.c 1 5) (.j 2 ((ac.text).size) .z))<|yo (zT 0 ({T with title:=((ac.text).extract (2:Int).toNat (ac.text).size)}:TS) h fun u h=>?_);refine yE (nB (qR ?_));refine h.tfin hg ?_;simp only[qef,qlH,d,f,g,i,k,m,n,o,↓reduceIte,Int.reduceEq,Int.reduceLT,Int.reduceLE,sB]
   refine qk (nB (qR ?_));refine h.tfin hg ?_;simp only[qef,qlH,d,f,g,i,k,m,n,o,↓reduceIte,Int.reduceEq,Int.reduceLT,Int.reduceLE,sB]
  refine yz 16<|ycf<|qk (nB (qR ?_));refine h.tfin hg ?_;simp only[qef,qlH,d,f,g,i,k,m,↓reduceIte,Int.reduceEq,Int.reduceLT,Int.reduceLE,sB]
 refine qk (nB (qR ?_));refine h.tfin hg ?_;simp only[qef,qlH, *,↓reduceIte,Int.reduceEq,Int.reduceLT,Int.reduceLE,sB]
def qjL (T:TS)(c:Int):TS:=(qbh T.parser c).2.foldl qef {T with parser:=(qbh T.parser c).1}
def qdl (T:TS)(s:ByteArray):Nat->TS
 |0=>T
 |k+1=>qjL (qdl T s k) (bt s ((k:Nat):Int))
def qgt (T:TS)(s:ByteArray):TS:=qdl T s s.size
structure AcOk (a:Ac):Prop where
 n:a.params.length<=8
 b:∀x∈a.params,0<=x/\x<=9999
 t:a.text.size<=40
theorem qeH {k r l:Int}{m u:ByteArray}(h:u.size<=40):AcOk ⟨k,r,l,m,[],u⟩:=⟨by simp,(fun x hx=>by cases hx),h⟩
theorem qbu (s:Int):(atP s).lim:=⟨qkR,(by decide:(0:Nat)<=2),(by decide:(0:Nat)<=40),(by decide:(0:Nat)<=8),fun x hx=>by cases hx⟩
def qiv (r:PS×List Ac):Prop:=r.1.lim/\ ∀a∈r.2,AcOk a
theorem qao {p:PS}(h:p.lim):qiv (p,[]):=⟨h,fun a ha=>by cases ha⟩
theorem qeI {p:PS}{a:Ac}(h:p.lim)(ha:AcOk a):qiv (p,[a]):=⟨h,fun b hb=>by obtain rfl:=List.mem_singleton.1 hb;exact ha⟩
theorem qeJ (l:List Int):∀a∈l.map acP,AcOk a:=fun a ha=>by
 obtain⟨r,_,rfl⟩:=List.mem_map.1 ha
 exact qeH (by decide)
theorem qlL {l m:List Ac}(h:∀a∈l,AcOk a)(h':∀a∈m,AcOk a):∀a∈l++m,AcOk a:=fun a ha=>(List.mem_append.1 ha).elim (h a) (h' a)
theorem qv {P:PS×List Ac->Prop}{c:Prop}[Decidable c]{a b:PS×List Ac}(h1:c->P a)(h2:¬c->P b):P (if c then a else b):=by
 by_cases h:c
 ·rw[if_pos h];exact h1 h
 ·rw[if_neg h];exact h2 h
theorem qhJ {p:PS}(h:p.lim)(s:Int):qiv (qy p s):=qeI (qbu 0) (qeH h.t)
theorem qn1 {p:PS}(h:p.lim)(c:Int):qiv (qr p c):=by
 unfold qr
 refine qv (fun _=>qao ?_) fun _=>qv (fun _=>qao (qbu 3)) fun _=>qv (fun _=>qao (qbu 5)) fun _=>qv (fun _=>qao (qbu 6)) fun _=>qeI (qbu 0) (qeH (by decide))
 split
 ·exact⟨h.u,by show(p.marks++qf [c]).size<=2;rw[ByteArray.size_append,qb0];omega,h.t,h.n,h.b⟩
 ·exact⟨h.u,h.m,h.t,h.n,h.b⟩
theorem qn2 {p:PS}(h:p.lim)(c:Int):qiv (qO p c):=by
 unfold qO
 refine qv (fun _=>qao ⟨h.u,h.m,h.t,h.n,h.b⟩) fun _=>qv (fun _=>qhJ h 5) fun _=>qv (fun _=>qao (qbu 0)) fun _=>qv (fun h3=>qao ⟨h.u,h.m,?_,h.n,h.b⟩) fun _=>qao h
 show(p.text++qf [c]).size<=40
 rw[ByteArray.size_append,qb0];omega
theorem someL_bd {l:List Int}(h:∀x∈l,0<=x/\x<=9999):∀x∈qbd l,0<=x/\x<=9999:=fun x hx=>by
 unfold qbd at hx
 split at hx
 ·simp at hx;omega
 ·exact h x hx
theorem fed_csi {p:PS}(h:p.lim)(c:Int):qiv (qby p c):=by
 have h1:=qgj p.params
 have h2:=someL_bd h.b
 have h3:=qlF h.b
 have h4:=h.n
 unfold qby
 refine qv (fun hc=>qao ⟨h.u,h.m,h.t,?_,?_⟩) fun _=>qv (fun _=>qao ?_) fun _=>qv (fun _=>qv (fun _=>qao (qbu 0)) fun _=>qeI (qbu 0) ⟨h.n,h.b,(by decide:(0:Nat)<=40)⟩) fun _=>qv (fun _=>qao ⟨h.u,h.m,h.t,h.n,h.b⟩) fun h5=>qao ⟨h.u,?_,h.t,h.n,h.b⟩
 ·show(qfg _ _).length<=8
  unfold qfg;rw[List.length_set];omega
 ·intro x hx
  have hx':x∈(qbd p.params).set ((qbd p.params).length-1) (min (10*qgk (qbd p.params)+(c-48)) 9999):=hx
  rcases List.mem_or_eq_of_mem_set hx' with hx|rfl
  ·exact h2 x hx
  ·omega
 ·split
  ·refine⟨h.u,h.m,h.t,?_,?_⟩
   ·show(qbd p.params++[0]).length<=8
    rw[List.length_append];simp only[List.length_cons,List.length_nil];omega
   ·intro x hx
    rcases List.mem_append.1 hx with hx|hx
    ·exact h2 x hx
    ·simp at hx;omega
  ·exact⟨h.u,h.m,h.t,by show(qbd p.params).length<=8;omega,h2⟩
 ·show(p.marks++qf [c]).size<=2
  have:=h.m
  rw[ByteArray.size_append,qb0];omega
theorem qlM {u:US}(h:u.ok){c:Int}(hc:0<=c/\c<=255):(qda u c).1.ok:=by
 have hb:∀x∈u.pend++[c],0<=x/\x<=255:=fun x hx=>(List.mem_append.1 hx).elim (h.pend x) (fun h=>by simp at h;omega)
 exact qom (fun x hx=>qdi hb 4 x (List.mem_of_mem_take hx)) (by rw[List.length_take];omega)
theorem qn3 {p:PS}(h:p.lim){c:Int}(hc:0<=c/\c<=255):qiv (qP p c):=by
 unfold qP
 refine qv (fun _=>qv (fun _=>⟨qbu 1,qeJ _⟩) fun _=>qv (fun _=>⟨⟨qkR,h.m,h.t,h.n,h.b⟩,qlL (qeJ _) fun a ha=>by obtain rfl:=List.mem_singleton.1 ha;exact qeH (by decide)⟩) fun _=>⟨⟨qlM qkR hc,h.m,h.t,h.n,h.b⟩,qlL (qeJ _) (qeJ _)⟩) fun _=>⟨⟨qlM h.u hc,h.m,h.t,h.n,h.b⟩,qeJ _⟩
theorem qjM {p:PS}(h:p.lim){c:Int}(hc:0<=c/\c<=255):qiv (qaR p c):=by
 unfold qaR
 exact qv (fun _=>qn3 h hc) fun _=>qv (fun _=>qn2 h c) fun _=>qv (fun _=>qao (qbu 0)) fun _=>qv (fun _=>qao (qbu 1)) fun _=>qv (fun _=>qeI h (qeH (by decide))) fun _=>qv (fun _=>qao h) fun _=>qv (fun _=>fed_csi h c) fun _=>qn1 h c
theorem qiw {p:PS}(h:p.lim){c:Int}(hc:0<=c/\c<=255):qiv (qbh p c):=by
 unfold qbh
 exact qv (fun _=>qv (fun _=>qhJ h _) fun _=>qjM (qbu 1) hc) fun _=>qjM h hc
theorem fed_len {p:PS}(h:p.lim)(c:Int):(qbh p c).2.length<=8:=by
 have hf:(qb8 p.utf).length<=3:=by unfold qb8;rw[List.length_replicate];have:=h.u.n;omega
 have hu:=qeD h.u c
 have h0:=qeD qkR c
 have l1:∀(q:PS) (s:Int),(qy q s).2.length<=8:=fun _ _=>by simp[qy]
 have l2:∀q:PS,(qr q c).2.length<=8:=fun q=>by
  unfold qr
  exact qv (P:=fun r=>r.2.length<=8) (fun _=>by simp) fun _=>qv (P:=fun r=>r.2.length<=8) (fun _=>by simp) fun _=>qv (P:=fun r=>r.2.length<=8) (fun _=>by simp) fun _=>qv (P:=fun r=>r.2.length<=8) (fun _=>by simp) fun _=>by simp
 have l3:∀q:PS,(qO q c).2.length<=8:=fun q=>by
  unfold qO
  exact qv (P:=fun r=>r.2.length<=8) (fun _=>by simp) fun _=>qv (P:=fun r=>r.2.length<=8) (fun _=>l1 _ _) fun _=>qv (P:=fun r=>r.2.length<=8) (fun _=>by simp) fun _=>qv (P:=fun r=>r.2.length<=8) (fun _=>by simp) fun _=>by simp
 have l4:∀q:PS,(qby q c).2.length<=8:=fun q=>by
  unfold qby
  exact qv (P:=fun r=>r.2.length<=8) (fun _=>by simp) fun _=>qv (P:=fun r=>r.2.length<=8) (fun _=>by simp) fun _=>qv (P:=fun r=>r.2.length<=8) (fun _=>qv (P:=fun r=>r.2.length<=8) (fun _=>by simp) fun _=>by simp) fun _=>qv (P:=fun r=>r.2.length<=8) (fun _=>by simp) fun _=>by simp
 have l5:(qP p c).2.length<=8:=by
  unfold qP
  exact qv (P:=fun r=>r.2.length<=8) (fun _=>qv (P:=fun r=>r.2.length<=8) (fun _=>by simp;omega) fun _=>qv (P:=fun r=>r.2.length<=8) (fun _=>by simp;omega) fun _=>by simp;omega) fun _=>by simp;omega
 have l6:∀q:PS,(qP q c).2.length<=8->(qaR q c).2.length<=8:=fun q hq=>by
  unfold qaR
  exact qv (P:=fun r=>r.2.length<=8) (fun _=>hq) fun _=>qv (P:=fun r=>r.2.length<=8) (fun _=>l3 _) fun _=>qv (P:=fun r=>r.2.length<=8) (fun _=>by simp) fun _=>qv (P:=fun r=>r.2.length<=8) (fun _=>by simp) fun _=>qv (P:=fun r=>r.2.length<=8) (fun _=>by simp) fun _=>qv (P:=fun r=>r.2.length<=8) (fun _=>by simp) fun _=>qv (P:=fun r=>r.2.length<=8) (fun _=>l4 _) fun _=>l2 _
 have l7:(qP (atP 1) c).2.length<=8:=by
  have hz:(qb8 (atP 1).utf).length<=3:=by simp[qb8,atP]
  have hv:(qda (atP 1).utf c).2.length<=4:=h0
  unfold qP
  exact qv (P:=fun r=>r.2.length<=8) (fun _=>qv (P:=fun r=>r.2.length<=8) (fun _=>by simp;omega) fun _=>qv (P:=fun r=>r.2.length<=8) (fun _=>by simp;omega) fun _=>by simp;omega) fun _=>by simp;omega
 unfold qbh
 exact qv (P:=fun r=>r.2.length<=8) (fun _=>qv (P:=fun r=>r.2.length<=8) (fun _=>l1 _ _) fun _=>l6 _ l7) fun _=>l6 _ l5
theorem TermIn.newPs {w w':World}{t g o:Nat}{ba:Option Addr}{bn bc:Nat}{pa:Option Addr}{pn pc:Nat}{T:TS}{F F1 F2 FB FP K:Nat->Prop}(h:TermIn w t g o ba bn bc pa pn pc T F F1 F2 FB FP)(hc:Ch (fun j=>j=t) w w'){p':PS}{po:Option Nat}{pn' pc':Nat}
  (hb:Blk w' t (({T with parser:=p'}:TS).vals g o (.slice ba bn bc) (.slice (po.map at0) pn' pc')) qap) (hp:IntsAt w' .i64 po pn' pc' p'.params K) (hK:∀b,po=some b->FP b\/(¬F b/\gTop<=b)):
  TermIn w' t g o ba bn bc (po.map at0) pn' pc' ({T with parser:=p'}:TS) (fun b=>F b\/po=some b) F1 F2 FB (fun b=>FP b\/po=some b):=by
 obtain⟨rows,hL,hl⟩:=h.bk
 have key:∀(X:Nat->Prop),(∀b,X b->F b)->(∀b,X b-> ¬FP b)-> ∀b,X b-> ¬(FP b\/po=some b):=fun X h1 h2 b hx hy=>hy.elim (h2 b hx) fun e=>(hK b e).elim (h2 b hx) fun h3=>h3.1 (h1 b hx)
 exact
 {blk:=hb
  g1:=h.g1.ch hc fun b hb e=>h.t1 (e▸hb)
  g2:=h.g2.ch hc fun b hb e=>h.t2 (e▸hb)
  bk:=⟨rows,hL.ch hc fun b hb e=>h.tB (e▸hb),hl⟩
  bcap:=h.bcap
  ps:=⟨hp.1,hp.2.1,(fun e=>hp.2.2.1 (by cases po<;>simp_all)),fun ad e=>by
   cases po with
   |none=>cases e
   |some b=>cases e;exact .inr rfl⟩
  pz:=⟨po,rfl⟩
  bz:=h.bz
  t1:=h.t1,t2:=h.t2,tB:=h.tB
  tP:=key (fun b=>b=t) (fun b e=>e▸h.inF.1) (fun b e=>e▸h.tP) t rfl
  a12:=h.a12,a1B:=h.a1B,a2B:=h.a2B
  a1P:=key F1 h.inF.2.1 h.a1P
  a2P:=key F2 h.inF.2.2.1 h.a2P
  inF:=⟨.inl h.inF.1,fun b hb=> .inl (h.inF.2.1 b hb),fun b hb=> .inl (h.inF.2.2.1 b hb),fun b hb=> .inl (h.inF.2.2.2.1 b hb),fun b hb=>hb.imp (h.inF.2.2.2.2 b) id⟩
  lt:=fun b hb=>hb.elim (fun hb=>Nat.lt_of_lt_of_le (h.lt b hb) hc.size) fun e=>(hp.2.2.2 b e).2
  hi:=fun b hb=>hb.elim (h.hi b) fun e=>(hK b e).elim (fun hb=>h.hi b (h.inF.2.2.2.2 b hb)) fun h3=>h3.2}
theorem TermIn.ints {w:World}{t g o:Nat}{ba:Option Addr}{bn bc:Nat}{pa:Option Addr}{pn pc:Nat}{T:TS}{F F1 F2 FB FP:Nat->Prop}(h:TermIn w t g o ba bn bc pa pn pc T F F1 F2 FB FP):
  ∃po:Option Nat,pa=po.map at0/\IntsAt w .i64 po pn pc T.parser.params (fun b=>po=some b)/\ ∀b,po=some b->FP b:=by
 obtain⟨po,rfl⟩:=h.pz
 have hf:∀b,po=some b->FP b:=fun b e=>by subst e;exact h.ps.2.2.2 _ rfl
 refine⟨po,rfl,⟨h.ps.1,h.ps.2.1,fun e=>h.ps.2.2.1 (by rw[e];rfl),fun b e=>⟨e,h.lt b (h.inF.2.2.2.2 b (hf b e))⟩⟩,hf⟩
theorem ActsAt.at {w:World}{b n c:Nat}{l:List Ac}{K:Nat->Prop}(h:ActsAt w (some b) n c l K){j:Nat}(hj:j<n):∃ac ao an cc,l[j]? =some ac/\IntsAt w .i64 ao an cc ac.params K/\
  w.cell? ⟨b,(0+((j:Nat):Int).toNat*6),none⟩=some (.int .i64 ac.kind)/\w.cell? ⟨b,(0+((j:Nat):Int).toNat*6)+1,none⟩=some (.int .i32 ac.rune)/\w.cell? ⟨b,(0+((j:Nat):Int).toNat*6)+2,none⟩=some (.int .u8 ac.last)/\
  w.cell? ⟨b,(0+((j:Nat):Int).toNat*6)+3,none⟩=some (.string ac.marks)/\w.cell? ⟨b,(0+((j:Nat):Int).toNat*6)+4,none⟩=some (.slice (ao.map at0) an cc)/\w.cell? ⟨b,(0+((j:Nat):Int).toNat*6)+5,none⟩=some (.string ac.text):=by
 obtain⟨vss,h1,h2,h3⟩:=h.ex
 have hl:=h.len
 have hj1:j<l.length:=by omega
 have hj2:j<vss.length:=by omega
 obtain⟨ao,an,cc,e,hv⟩:=h3 j hj1 hj2
 have h6:∀v∈vss,v.length=6:=fun v hv=>by
  obtain⟨i,hi,rfl⟩:=List.getElem_of_mem hv
  exact(h3 i (by omega) hi).len
 have key:∀k,k<6-> ∀v,(l[j].vals (.slice (ao.map at0) an cc))[k]? =some v->w.cell? ⟨b,0+(j*6+k),none⟩=some v:=fun k hk v hv=>qci h1.rd _ _ (by rw[qmO h6 hj2 hk,e];exact hv)
 refine⟨l[j],ao,an,cc,List.getElem?_eq_getElem hj1,hv,?_⟩
 rw[Int.toNat_natCast,Nat.zero_add]
 have k0:=key 0 (by decide) _ rfl
 have k1:=key 1 (by decide) _ rfl
 have k2:=key 2 (by decide) _ rfl
 have k3:=key 3 (by decide) _ rfl
 have k4:=key 4 (by decide) _ rfl
 have k5:=key 5 (by decide) _ rfl
 simp only[Nat.zero_add,Nat.add_zero]at k0 k1 k2 k3 k4 k5
 exact⟨k0,k1,k2,k3,k4,k5⟩
theorem qoA {l:List Ac}{j:Nat}{ac:Ac}(h:l[j]? =some ac)(T:TS):(l.take (j+1)).foldl qef T=qef ((l.take j).foldl qef T) ac:=by
 obtain⟨hj,rfl⟩:=List.getElem?_eq_some_iff.1 h
 rw[List.take_succ_eq_append_getElem hj,List.foldl_append]
 rfl
theorem qoB {F F2:Nat->Prop}{w u v:World}(h:∀b,F2 b->more F w u b)(h1:w.heap.size<=u.heap.size)(h2:u.heap.size<=v.heap.size):∀b,more F2 u v b->more F w v b:=fun b hb=>hb.elim (fun hb=>(h b hb).imp id fun h=>⟨h.1,by omega⟩) fun hb=> .inr ⟨by omega,hb.2⟩
theorem ch_in {F F2:Nat->Prop}{w u v:World}(hc:Ch F w u)(h:∀b,F2 b->more F w u b)(hc2:Ch F2 u v):Ch F w v:=hc.trans hc2 fun i hi h2=>(h i h2).elim id fun h=>by omega
theorem qix {W H:Int}{T:TS}(h:Lim W H T)(l:List Ac):Lim W H (l.foldl qef T):=by
 induction l generalizing T with
 |nil=>exact h
 |cons a l ih=>exact ih (qow h a)
theorem qfj {W H:Int}{T:TS}(h:Lim W H T)(p:PS):Lim W H {T with parser:=p}:=h.flags rfl rfl rfl rfl rfl rfl rfl rfl rfl
theorem lim_feed {W H:Int}{T:TS}(h:Lim W H T)(c:Int):Lim W H (qjL T c):=qix (qfj h _) _
theorem qjN {W H:Int}{T:TS}(h:Lim W H T)(s:ByteArray)(k:Nat):Lim W H (qdl T s k):=by
 induction k with
 |zero=>exact h
 |succ k ih=>exact lim_feed ih _
theorem qL {c:Prop}[Decidable c]{a b:TS}{p:PS}(h1:a.parser=p)(h2:b.parser=p):(if c then a else b).parser=p:=by
 split<;>assumption
theorem qjO (T:TS)(n:Int):(qbs T n).parser=T.parser:=qL rfl rfl
theorem qiy (T:TS)(x y:Int):(qey T x y).parser=T.parser:=qL rfl rfl
theorem qe0 (T:TS):(qbo T).parser=T.parser:=qL (qjO T 1) (qL rfl rfl)
theorem upT_p (T:TS):(upT T).parser=T.parser:=qL rfl (qL rfl rfl)
theorem printT_p (T:TS)(r:Int):(qez T r).parser=T.parser:=by
 have hA:∀T,(qbM T).parser=T.parser:=fun T=>qL (qe0 _) rfl
 have hB:∀T n,(qbx T n).parser=T.parser:=fun T n=>qL (qL (qe0 _) rfl) rfl
 have hC:∀T n,(qc1 T n).parser=T.parser:=fun T n=>qL rfl rfl
 have hE:∀T n,(qgi T n).parser=T.parser:=fun T n=>qL rfl rfl
 unfold qez
 rw[hE]
 exact(hC _ _).trans ((hB _ _).trans (hA _))
theorem execT_p (T:TS)(c:Int):(qdh T c).parser=T.parser:=
 qL rfl (qL rfl (qL (qe0 T) (qL (qe0 T) (qL (qe0 T) (qL rfl (qL rfl (qL rfl rfl)))))))
theorem escT_p (T:TS)(a:Ac):(qh9 T a).parser=T.parser:=
 qL (qL rfl rfl) (qL (qL rfl rfl) (qL rfl (qL rfl (qL rfl (qL (qe0 T) (qL (qe0 T) (qL (upT_p T) (qL rfl (qL rfl rfl)))))))))
theorem qiz (T:TS)(s:ByteArray):(qdV T s).parser=T.parser:=qL rfl rfl
theorem tellT_p (T:TS)(c k:Int):(qcJ T c k).parser=T.parser:=qL rfl (qL rfl (qL rfl (qL (qiz _ _) (qL (qiz _ _) (qL (qiz _ _) rfl)))))
theorem eraseN_p (T:TS)(k x y:Int)(s:Sty)(a:Int)(j:Nat):(qeF T k x y s a j).parser=T.parser:=by
 induction j with
 |zero=>rfl
 |succ j ih=>exact(qL rfl (qL rfl (qL rfl rfl)):(qb9 (qeF T k x y s a j) k x y s (a+(j:Int))).parser=_).trans ih
theorem qiA (T:TS)(k a b:Int):(qgo T k a b).parser=T.parser:=eraseN_p _ _ _ _ _ _ _
theorem editT_p (T:TS)(c n:Int)(l:List Int):(qbi T c n l).parser=T.parser:=
 qL rfl (qL rfl (qL rfl (qL (qiA _ _ _ _) (qL (qL (qiA _ _ _ _) (qiA _ _ _ _)) (qL (qL rfl rfl) (qL (qL rfl rfl) (qL (qjO _ _) (qL rfl (tellT_p _ _ _)))))))))
theorem plainT_p (T:TS)(c:Int)(l:List Int):(qau T c l).parser=T.parser:=
 qL rfl (qL rfl (qL rfl (qL rfl (qL rfl (qL (qiy _ _ _) (qL (qiy _ _ _) (qL rfl (qL (qL (qiy _ _ _) rfl) (editT_p _ _ _ _)))))))))
theorem turnT_p (T:TS)(b:Bool):(qkS T b).parser=T.parser:=qL rfl (qL rfl rfl)
theorem modeT_p (T:TS)(n:Int)(b:Bool):(qbj T n b).parser=T.parser:=qL (qiy _ _ _) (qL rfl (qL rfl (qL (turnT_p _ _) rfl)))
theorem modes_p (T:TS)(l:List Int)(b:Bool):(l.foldl (fun T n=>qbj T n b) T).parser=T.parser:=by
 induction l generalizing T with
 |nil=>rfl
 |cons n l ih=>exact(ih _).trans (modeT_p _ _ _)
theorem csiT_p (T:TS)(a:Ac):(qlG T a).parser=T.parser:=qL (plainT_p _ _ _) (qL (modes_p _ _ _) rfl)
theorem actT_p (T:TS)(a:Ac):(qef T a).parser=T.parser:=qL (printT_p _ _) (qL (execT_p _ _) (qL (escT_p _ _) (qL (csiT_p _ _) (qL (qL rfl rfl) rfl))))
theorem acts_p (T:TS)(l:List Ac):(l.foldl qef T).parser=T.parser:=by
 induction l generalizing T with
 |nil=>rfl
 |cons a l ih=>exact(ih _).trans (actT_p _ _)
theorem qoC (T:TS)(c:Int):(qjL T c).parser=(qbh T.parser c).1:=acts_p _ _
theorem qdI {T:TS}(h:T.parser.lim)(s:ByteArray)(k:Nat):(qdl T s k).parser.lim:=by
 induction k with
 |zero=>exact h
 |succ k ih=>exact(qoC _ _)▸(qiw ih (qcW s _)).1
def zeroT:TS:={grid:=⟨0,0,[]⟩,other:=⟨0,0,[]⟩,cursor:=cur0,saved:=cur0,away:=cur0,top:=0,bot:=0,tabs:=fun _=>false,wrap:=false,origin:=false,insert:=false,hidden:=false,draw0:=false,draw1:=false,shift:=false,alt:=false,title:=ByteArray.empty,back:=[],parser:=⟨0,⟨0,0,0,0⟩,ByteArray.empty,[],ByteArray.empty,0⟩,reply:=ByteArray.empty}
theorem qeK (p1 p2:Int)(w:World)(hT:LT w)(h7:gTop<=w.heap.size):Calls Tryz.prog 31 [iX p1,iX p2].toArray w fun e w'=> ∃t,e= .returned (pX t)/\TermAt w' t (startT zeroT p1 p2) (fun b=>w.heap.size<=b/\b<w'.heap.size)/\Ch (fun _=>False) w w':=by
 refine yA Tryz.func31 rfl<|yx 1<|ysr<|yq 1<|yo (yN [.pointer none,.pointer none,iX 0,iX 0,.bool false,.bool false,.bool false,.bool false,iX 0,iX 0,iX 0,iX 0,.bool false,.bool false,.bool false,.bool false,iX 0,iX 0,iX 0,iX 0,.bool false,.bool false,.bool false,.bool false,iX 0,iX 0,iX 0,iX 0,.bool false,.bool false,.bool false,.bool false,.bool false,.bool false,.bool false,.bool false,.bool false,.bool false,.bool false,.bool false,.bool false,.bool false,.bool false,.bool false,.bool false,.bool false,.bool false,.bool false,.bool false,.bool false,.bool false,.bool false,.bool false,.bool false,.bool false,.bool false,.bool false,.bool false,.bool false,.bool false,.bool false,.bool false,.bool false,.bool false,.bool false,.bool false,.bool false,.bool false,.bool false,.bool false,.bool false,.bool false,.bool false,.bool false,.bool false,.bool false,.bool false,.bool false,.bool false,.bool false,.bool false,.bool false,.bool false,.bool false,.bool false,.bool false,.bool false,.bool false,.bool false,.bool false,.bool false,.bool false,.bool false,.bool false,.bool false,.bool false,oX,nX,iX 0,uX 0,uX 0,uX 0,iX 0,oX,nX,oX,iX 0,oX] 96 fun d a j p k l=>?_);have q:=zn j (zm w);have c:=zu (zm w) l iZ;refine yz 3<|ysr<|yq 3 ?_;have f:Blk d a (zeroT.valsG (.pointer none) (.pointer none) (nX) (nX)) qap:=Blk.to k (by kernel_rfl);have r:=zzs c
 have m:PsAt d a none 0 0 zeroT.parser.params (fun _=>False):=⟨⟨Rd.nil _ _,rfl,fun _=>rfl,fun ad e=>by cases e⟩,⟨none,rfl⟩,fun b h=>h.elim⟩
 have n:=qat (Up.ch c) hT (fun _ h=>h.elim);refine yo (yQ (qjK f m (by omega) n (by decide) p1 p2) ?_);rintro s ⟨o,g⟩;refine ye<|yx 2<|q9 (yR1 (pX a) ?_);refine⟨a,rfl,TermAt.mono o (fun b hb=>?_) (fun b hb=>⟨hb.2,by omega⟩),zt (Up.ch c) g (fun i hi h=>?_)⟩
 ·have hz:=zzs g;rcases hb with rfl|hb|hb
  ·exact⟨by omega,by have:=f.lt;omega⟩
  ·exact hb.elim
  exact⟨by omega,hb.2⟩
 rcases h with rfl|h
 ·omega
 exact h
theorem qoD {X:PS×List Ac}{w:World}{po:Option Nat}{pn pc:Nat}{p:PS}{c:Int}(hX:qbh p c=X)(hP:IntsAt w .i64 po pn pc p.params (fun b=>po=some b))(hcB:0<=c/\c<=255)(hU:qcy w)(hp:p.lim)(hn8:pn<=8):Calls Tryz.prog 109 [.agg #[iX p.state,uX p.utf.b0,uX p.utf.b1,uX p.utf.b2,iX p.utf.n,.string p.marks,.slice (po.map at0) pn pc,.string p.text,iX p.within],uX c].toArray w fun e w'=>Fed w w' e po X.1 X.2:=by
 subst hX;exact feed_any hP c hcB hU hp hn8
theorem qlN {w:World}{t:Nat}{W H:Int}{T:TS}{F:Nat->Prop}(hA0:TermAt w t T F)(hT:LT w)(hL:Lim W H T)(hp:T.parser.lim)(s:ByteArray)(hs:s.size<=1000000):Calls Tryz.prog 83 [pX t,.string s].toArray w fun e w'=>e= .returned (.tuple #[])/\TermAt w' t (qgt T s) (more F w w')/\Ch F w w':=by
 obtain⟨g,o,ba,bn,bc,pa,pn,pc,F1,r,FB,FP,hI⟩:=hA0;have hA0:TermAt w t T F:=⟨g,o,ba,bn,bc,pa,pn,pc,F1,r,FB,FP,hI⟩
 have l:=hI.inF.1;obtain⟨gv,cA⟩:=hI.g1.head;have cB:Df t g:=fun e=>hI.t1 (e▸hI.g1.inF);obtain⟨⟨cC,cD⟩,⟨cE,cF⟩,cG,cH⟩:=hI.g1.ok;have bf:=hL;have cI:=bf.all;refine yA Tryz.func83 rfl<|yx 3<|qa ?_;have az:=hI.cht (Ch.refl (· =t) w);have bg:=hI.pk1 hI az;refine qT [0,1,9,10] (f':=[(0,pX t),(1,.string s),(9,iX ((s).size:Int)),(10,iX 0)])<|qx (σ:=Nat) (fun k=>[(0,pX t),(1,.string s),(9,iX ((s).size:Int)),(10,iX ((k:Nat):Int))]) (fun k u=>k<=s.size/\(TermAt u t (qdl T s k) (more F w u)/\Ch F w u)) (fun k=>s.size-k) 0 rfl ?_ ?_
 ·exact⟨Nat.zero_le _,(TermAt.eq' bg rfl),az⟩
 intro k ah bh cJ aA;obtain⟨hk,aB,ai⟩:=bh;have bi:=qat ai hT (fun b hb=>hI.hi b hb);have aj:Lim W H (qdl T s k):=(qjN hL s k)
 generalize U:(qdl T s k)=y at aB aj;have bj:=aj;have cK:=bj.all;obtain⟨ak,bk,bl,bm,bo,cL,cM,cN,cO,cP,cQ,cR,C⟩:=aB;obtain⟨cS,cT⟩:=C.g1.head;have cU:Df t ak:=fun e=>C.t1 (e▸C.g1.inF);obtain⟨bp,bq,br,V⟩:=C.ints;subst bq;refine yx 1<|ys<|yc (rL ((k:Nat):Int) ((s).size:Int)) (fun bs=>?_) fun bs=>?_
 ·refine yk<|ys<|qa<|yx 2<|yx 1<|ys<|yD [8,14] fun D cV Y=>?_;have N:=zt (Ch.refl (· =t) ah) Y eZ;have aC:=qat Y bi (fun _ h=>h.elim);have Z:=C.blk.ch Y id;have aD:=br.ch Y iZ;refine yd (uL 0 8) [] (.a (Z.cs 98 9) (.i ((k:Nat):Int) ((s).size) .z)) ?_;have cW:=C.scalar (T':=y) N Z rfl rfl rfl rfl;have aE:=C.scalar (T':=y) N Z rfl rfl rfl rfl;have O:=Ch.on ai N l;have cX:=aE.pk2 N hI O;have bu:=aE.mono (F':=more F w D) (fun b hb=>hb.elim .inl (fun x=> .inr ⟨x.1,by have:=zzs N;omega⟩)) (hI.moreOk O.size);obtain⟨d,a0⟩:∃X,qbh y.parser (bt s ((k:Nat):Int))=X:=⟨_,rfl⟩
  have a1:(y.parser).lim:=(U▸qdI hp s k)
  have aF:=qiw a1 (qcW s ((k:Nat):Int));have bv:=fed_len a1 (bt s ((k:Nat):Int));rw[a0]at aF bv;refine yK 8 (yC ((qoD a0 (p:=y.parser) aD (qcW s _) aC.ut a1 (by have:=a1.n;have:=aD.2.1;omega))) ?_);rintro _ al ⟨E,aG,aH,bw,c,a2,rfl,aI,bx,P⟩;refine⟨_,rfl,?_⟩;have cY:=zzs P;have bz:=qat P aC (fun _ h=>h.elim);have bA:=Z.ch P id;refine q8<|yd (uL 9 5) [] .z ?_;have a3:=bu.same P iZ;refine yK 14 (qaI 98 [iX d.1.state,uX d.1.utf.b0,uX d.1.utf.b1,uX d.1.utf.b2,iX d.1.utf.n,.string d.1.marks,.slice (E.map at0) aG aH,.string d.1.text,iX d.1.within] none (by kernel_rfl) bA (qbY (by kernel_rfl)) ?_);intro q am A;replace am:Blk q t (TS.vals ({y with parser:=d.1}:TS) ak bk (.slice bl bm bo) (.slice (E.map at0) aG aH)) qap:=Blk.to am (by kernel_rfl);have ap:∀b,E=some b->bp=some b\/(D.heap.size<=b/\b<al.heap.size):=fun b e=>(aI.2.2.2 b e).1;have G:∀b,more F w D b->b<D.heap.size/\gTop<=b:=hI.moreOk O.size;have cZ:∀b,E=some b-> ¬b=t:=fun b e h=>(ap b e).elim (fun x=>a3.tP (h▸V b x)) (fun x=>by have:=(G t (.inl l)).1;omega);have bB:=aI.ch A (fun b hb (h:b=t)=>hb.elim (fun x=>a3.tP (h▸V b x)) (fun x=>by have:=(G t (.inl l)).1;omega));have f:=a3.newPs A (p':=d.1) am bB (fun b e=>(ap b e).imp (fun h=>V b h) (fun h=>⟨fun x=>by have:=(G b x).1;omega,by have:=(G t (.inl l)).2;have:=(G t (.inl l)).1;omega⟩))
  obtain⟨r,aq⟩:∃F':Nat->Prop,F'=fun b=>more F w D b\/E=some b:=⟨_,rfl⟩
  rw[<-aq]at f;have a4:∀b,r b->more F w q b:=fun b hb=>by
   rw[aq]at hb;rcases hb with hb|hb
   ·exact hb.imp id fun h=>⟨h.1,by have:=zzs A;omega⟩
   rcases ap b hb with h|h
   ·exact(a3.inF.2.2.2.2 b (V b h)).imp id fun h=>⟨h.1,by have:=zzs A;omega⟩
   exact .inr ⟨by have:=zzs O;omega,by have:=zzs A;omega⟩
  have J:Ch F w q:=zt (zt O P eZ) A (fun i _ h=>h▸l);have ar:∀b,((D.heap.size<=b/\b<al.heap.size)/\E≠some b)->b<q.heap.size:=fun b hb=>by have:=zzs A;omega
  have aJ:∀b,((D.heap.size<=b/\b<al.heap.size)/\E≠some b)-> ¬r b:=fun b hb h=>by
   rw[aq]at h;rcases h with h|h
   ·have:=(G b h).1;omega
   exact hb.2 h
  have bC:=qat A bz (fun b (h:b=t)=>h▸hI.hi t l);have a5:=bx.ch A (fun b hb (h:b=t)=>by have:=(G t (.inl l)).1;omega);have Q:r t:=f.inF.1;have aK:TermAt q t ({y with parser:=d.1}:TS) r:=⟨_,_,_,_,_,_,_,_,_,_,_,_,f⟩
  have au:Lim W H ({y with parser:=d.1}:TS):=qfj aj _;generalize aL:({y with parser:=d.1}:TS)=T68 at f aK au;obtain⟨d0,d1⟩:=f.g1.head;have d2:Df t ak:=fun e=>f.t1 (e▸f.g1.inF);refine q8<|yd [15] [] .z<|yDe (nS ?_);refine yx 3<|qa ?_;rcases bw with _|ab
  ·have av:d.2.length=c:=a5.len;have d3:c=0:=by
    obtain⟨d4,h1,x,h3⟩:=a5.ex;exact(h1.2.2.2.1 rfl).1
   have aM:=f.cht (Ch.refl (· =t) q);have bE:=f.pk1 f aM;refine qT [0,1,9,10,27,28,29] (f':=[(0,pX t),(1,.string s),(9,iX ((s).size:Int)),(10,iX ((k:Nat):Int)),(27,.slice none c a2),(28,iX ((c:Nat):Int)),(29,iX 0)])<|qx (σ:=Nat) (fun j=>[(0,pX t),(1,.string s),(9,iX ((s).size:Int)),(10,iX ((k:Nat):Int)),(27,.slice none c a2),(28,iX ((c:Nat):Int)),(29,iX ((j:Nat):Int))]) (fun j v=>j<=c/\(TermAt v t ((d.2.take j).foldl qef T68) (more r q v)/\Ch r q v)) (fun j=>c-j) 0 rfl ?_ ?_
   ·exact⟨Nat.zero_le _,(TermAt.eq' bE rfl),aM⟩
   intro j a6 bF d6 d7;obtain⟨hj,aN,bG⟩:=bF;have aw:Lim W H ((d.2.take j).foldl qef T68):=(qix au _)
   generalize bH:((d.2.take j).foldl qef T68)=T83 at aN aw;have bI:=aw;have d8:=bI.all;obtain⟨bJ,d9,da,db,dc,dd,de,df,dg,dh,di,dj,a7⟩:=aN;obtain⟨dk,dl⟩:=a7.g1.head;have dm:Df t bJ:=fun e=>a7.t1 (e▸a7.g1.inF);refine yx 1<|ys<|yc (rL ((j:Nat):Int) ((c:Nat):Int)) (fun bK=>?_) fun bK=>?_
   ·exfalso;omega
   have ax:j=c:=by omega
   have a8:=Ch.on bG (Ch.refl (· =t) a6) Q;have bL:=a7.pk2 (Ch.refl (· =t) a6) f a8;have aO:=bL.mono (qoB a4 (zzs J) (zzs a8)) (hI.moreOk (Nat.le_trans (zzs J) (zzs a8)));have bM:=ch_in J a4 a8;have aP:Lim W H T83:=aw;generalize bN:T83=T92 at aO aP;have bO:=aP;have dn:=bO.all;obtain⟨bP,dp,dq,dr,ds,dt,du,dv,dw,dx,dy,dz,a9⟩:=aO;obtain⟨dA,dB⟩:=a9.g1.head;have dC:Df t bP:=fun e=>a9.t1 (e▸a9.g1.inF);refine ql (eS (qd (qb (nB (nS ?_)))));refine q7<|yp 2 [] (.q6 (((k:Nat):Int)+1) .z) ?_;have aQ:=Ch.on bM (Ch.refl (· =t) a6) l;have bQ:=a9.pk2 (Ch.refl (· =t) a6) hI aQ;refine yE (fun a ha=>aA (k+1) _ ⟨(by omega),(TermAt.eq' bQ (by subst bN;subst bH;subst aL;subst U;show qjL _ _=_;unfold qjL;rw[a0,ax,<-av,List.take_length])),aQ⟩ (by show s.size-(k+1)<s.size-k;omega) a (ha.kp [0,1,9,10]))
  have av:d.2.length=c:=a5.len;have aR:=f.cht (Ch.refl (· =t) q);have bR:=f.pk1 f aR;refine qT [0,1,9,10,27,28,29] (f':=[(0,pX t),(1,.string s),(9,iX ((s).size:Int)),(10,iX ((k:Nat):Int)),(27,.slice (some ⟨ab,0,none⟩) c a2),(28,iX ((c:Nat):Int)),(29,iX 0)])<|qx (σ:=Nat) (fun j=>[(0,pX t),(1,.string s),(9,iX ((s).size:Int)),(10,iX ((k:Nat):Int)),(27,.slice (some ⟨ab,0,none⟩) c a2),(28,iX ((c:Nat):Int)),(29,iX ((j:Nat):Int))]) (fun j v=>j<=c/\(TermAt v t ((d.2.take j).foldl qef T68) (more r q v)/\Ch r q v)) (fun j=>c-j) 0 rfl ?_ ?_
  ·exact⟨Nat.zero_le _,(TermAt.eq' bR rfl),aR⟩
  intro j I bS dD bT;obtain⟨hj,aS,K⟩:=bS;have bU:=qat K bC (fun b hb=>f.hi b hb);have bV:=a5.ch K (fun b hb h=>aJ b hb h);have R:Lim W H ((d.2.take j).foldl qef T68):=(qix au _)
  generalize aT:((d.2.take j).foldl qef T68)=L at aS R;have bW:=R;have dE:=bW.all;obtain⟨bX,dF,dG,dH,dI,dJ,dK,dL,dM,dN,dO,dP,B⟩:=aS;obtain⟨dQ,dR⟩:=B.g1.head;have dS:Df t bX:=fun e=>B.t1 (e▸B.g1.inF);refine yx 1<|ys<|yc (rL ((j:Nat):Int) ((c:Nat):Int)) (fun bY=>?_) fun bY=>?_
  ·obtain⟨ac,ao,an,cc,aU,bZ,c0,c1,c2,c3,c4,c5⟩:=bV.at (j:=j) (by omega);have ay:=aF.2 ac (List.mem_of_getElem? aU);refine yk<|ys<|qa<|ysr<|yp 2 [] (.i ((j:Nat):Int) (c) (.m c0 (.m c1 (.m c2 (.m c3 (.m c4 (.m c5 (.e .z))))))))<|yo (yN [iX 0,rX 0,uX 0,oX,nX,oX] 190 fun dT S c6 dU c7 aa=>?_);have dV:I.heap.size<=S:=by rw[c6];exact zzs (Ch.refl (· =t) I)
   have c8:=zt (Ch.refl (· =t) I) aa eZ;have c9:=qat aa bU (fun _ h=>h.elim);have ca:=B.blk.ch aa id;have cb:=bZ.ch aa iZ;refine yo (yT [iX ac.kind,rX ac.rune,uX ac.last,.string ac.marks,.slice (ao.map at0) an cc,.string ac.text] c7 fun aV cd ad=>?_);have M:=zt c8 ad (fun i hi (h:i=S)=>by omega);have ce:=qat ad c9 (fun b (h:b=S)=>by have:=hI.hi t l;have:=B.blk.lt;omega);have aW:=ca.ch ad (fun(h:t=S)=>by have:=B.blk.lt;omega);have cf:=cb.ch ad (fun b hb (h:b=S)=>by have:=ar b hb;have:=zzs K;omega);refine ye<|q7<|yp 2 [] (.a (cd.cs 0 6) .z) ?_;have cg:=B.scalar (T':=L) M aW rfl rfl rfl rfl;have aX:=Ch.on K M Q;have dW:=cg.pk2 M f aX;have aY:=cf.mono (K':=fun b=> ¬more r q aV b/\b<aV.heap.size) (fun b hb=>⟨fun h=>h.elim (aJ b hb) (fun h=>by have:=ar b hb;omega),by have:=ar b hb;have:=zzs aX;omega⟩);have ci:=B.scalar (T':=L) M aW rfl rfl rfl rfl;have aZ:=Ch.on K M Q;have cj:=ci.pk2 M f aZ;refine yo (yQ (act_at cj ce R aY (by have:=ay.n;have:=aY.2.1;omega) ay.b (by have:=ay.t;omega)) ?_);rintro b3 ⟨ck,cl⟩;obtain⟨b4,cm⟩:=TermAt.next aK aZ cl ck;have b5:Lim W H (qef L ac):=(qow R ac)
   generalize cn:(qef L ac)=T150 at b4 b5;have co:=b5;have dX:=co.all;obtain⟨cp,dY,dZ,e0,e1,e2,e3,e4,e5,e6,e7,e8,ae⟩:=b4;obtain⟨e9,ea⟩:=ae.g1.head;have eb:Df t cp:=fun e=>ae.t1 (e▸ae.g1.inF);refine yE (nB (nS ?_));refine q7<|yp 2 [] (.q6 (((j:Nat):Int)+1) .z) ?_;have b6:=Ch.on cm (Ch.refl (· =t) b3) Q;have cq:=ae.pk2 (Ch.refl (· =t) b3) f b6;refine yE (fun a ha=>bT (j+1) _ ⟨(by omega),(TermAt.eq' cq (by subst cn;subst aT;exact qoA aU _)),b6⟩ (by show c-(j+1)<c-j;omega) a (ha.kp [0,1,9,10,27,28,29]))
  have ax:j=c:=by omega
  have af:=Ch.on K (Ch.refl (· =t) I) Q;have cr:=B.pk2 (Ch.refl (· =t) I) f af;have b7:=cr.mono (qoB a4 (zzs J) (zzs af)) (hI.moreOk (Nat.le_trans (zzs J) (zzs af)));have ct:=ch_in J a4 af;have b8:Lim W H L:=R;generalize cu:L=T160 at b7 b8;have cv:=b8;have ec:=cv.all;obtain⟨cw,ed,ee,ef,eg,eh,ei,ej,ek,el,em,en,ag⟩:=b7;obtain⟨eo,ep⟩:=ag.g1.head;have er:Df t cw:=fun e=>ag.t1 (e▸ag.g1.inF);refine ql (eS (qd (qb (nB (nS ?_)))));refine q7<|yp 2 [] (.q6 (((k:Nat):Int)+1) .z) ?_;have b9:=Ch.on ct (Ch.refl (· =t) I) l;have cx:=ag.pk2 (Ch.refl (· =t) I) hI b9;refine yE (fun a ha=>aA (k+1) _ ⟨(by omega),(TermAt.eq' cx (by subst cu;subst aT;subst aL;subst U;show qjL _ _=_;unfold qjL;rw[a0,ax,<-av,List.take_length])),b9⟩ (by show s.size-(k+1)<s.size-k;omega) a (ha.kp [0,1,9,10]))
 have cy:k=s.size:=by omega
 refine ql (eS (qd (qb (qR ?_))));have bb:=Ch.on ai (Ch.refl (· =t) ah) l;have cz:=C.pk2 (Ch.refl (· =t) ah) hI bb;subst U;subst cy;exact⟨rfl,cz,bb⟩
theorem qiB (a b:Cel):(((a.rune:Int)==b.rune)&&(((a.sty.bold==b.sty.bold)&&((a.sty.under==b.sty.under)&&((a.sty.turned==b.sty.turned)&&(((a.sty.fore:Int)==b.sty.fore)&&(((a.sty.back:Int)==b.sty.back)&&true)))))&&true))=(a==b):=qnZ a b
def Fine (T:TS):Prop:=(∃W H,Lim W H T)/\T.parser.lim
theorem qhK (p1 p2:Int):Fine (startT zeroT p1 p2):=⟨⟨_,_,qeG zeroT p1 p2 (by decide)⟩,qbu 0⟩
theorem qn4 {T:TS}(h:Fine T)(s:ByteArray):Fine (qgt T s):=by
 obtain⟨⟨W,H,h⟩,hp⟩:=h
 exact⟨⟨W,H,qjN h s _⟩,qdI hp s _⟩
structure Sys (w0 w:World)(bs:List (Nat×List Value×TypeId))(ts:List (Nat×TS)):Prop where
 ch:Ch (fun _=>False) w0 w
 lt:LT w
 top:gTop<=w0.heap.size
 blk:∀(i:Nat) x,bs[i]? =some x->Blk w x.1 x.2.1 x.2.2
 lo:∀(i:Nat) x,bs[i]? =some x->w0.heap.size<=x.1
 df:∀(i j:Nat) x y,bs[i]? =some x->bs[j]? =some y->i≠j->x.1≠y.1
 tm:∃F:Nat->Nat->Prop,(∀(i:Nat) x,ts[i]? =some x->TermAt w x.1 x.2 (F i)/\Fine x.2)/\(∀i j,i≠j-> ∀b,F i b-> ¬F j b)/\(∀i b,F i b->w0.heap.size<=b/\b<w.heap.size)/\ ∀(i j:Nat) x,bs[i]? =some x-> ¬F j x.1
section
variable {w0 w w':World}{bs:List (Nat×List Value×TypeId)}{ts:List (Nat×TS)}
theorem Sys.start (h:LT w)(h7:gTop<=w.heap.size):Sys w w [] []:=⟨Ch.refl _ _,h,h7,fun i x e=>by simp at e,fun i x e=>by simp at e,fun i j x y e=>by simp at e,fun _ _=>False,fun i x e=>by simp at e,fun _ _ _ _ h=>h.elim,fun _ _ h=>h.elim,fun _ _ _ _ h=>h.elim⟩
theorem Sys.same (h:Sys w0 w bs ts)(hc:Ch (fun _=>False) w w'):Sys w0 w' bs ts:=by
 obtain⟨F,h1,h2,h3,h4⟩:=h.tm
 exact⟨h.ch.trans hc (fun _ _ h=>h),qat hc h.lt (fun _ h=>h.elim),h.top,fun i x e=>(h.blk i x e).ch hc (fun h=>h),h.lo,h.df,F,fun i x e=>⟨(h1 i x e).1.ch hc (fun _ _ h=>h),(h1 i x e).2⟩,h2,fun i b hb=>⟨(h3 i b hb).1,Nat.lt_of_lt_of_le (h3 i b hb).2 hc.size⟩,h4⟩
theorem Sys.box (h:Sys w0 w bs ts)(hc:Ch (fun _=>False) w w'){b:Nat}{vs:List Value}{ty:TypeId}(hb:Blk w' b vs ty)(hz:w.heap.size<=b):Sys w0 w' (bs++[(b,vs,ty)]) ts:=by
 have h':=h.same hc
 obtain⟨F,h1,h2,h3,h4⟩:=h.tm
 obtain⟨F',g1,g2,g3,g4⟩:=h'.tm
 have one:∀i x,(bs++[(b,vs,ty)])[i]? =some x->bs[i]? =some x\/(i=bs.length/\x=(b,vs,ty)):=fun i x e=>by
  rcases Nat.lt_or_ge i bs.length with hi|hi
  ·rw[List.getElem?_append_left hi]at e;exact .inl e
  ·rw[List.getElem?_append_right hi]at e
   rcases Nat.eq_zero_or_pos (i-bs.length)with h0|h0
   ·rw[h0]at e;exact .inr ⟨by omega,(Option.some.inj e).symm⟩
   ·rw[List.getElem?_eq_none (by simp only[List.length_cons,List.length_nil];omega)]at e;cases e
 refine⟨h'.ch,h'.lt,h'.top,fun i x e=>?_,fun i x e=>?_,fun i j x y e e' hne=>?_,F,fun i x e=>⟨(h1 i x e).1.ch hc (fun _ _ h=>h),(h1 i x e).2⟩,h2,fun i b hb=>⟨(h3 i b hb).1,Nat.lt_of_lt_of_le (h3 i b hb).2 hc.size⟩,fun i j x e=>?_⟩
 ·rcases one i x e with e|⟨_,rfl⟩
  ·exact h'.blk i x e
  ·exact hb
 ·rcases one i x e with e|⟨_,rfl⟩
  ·exact h.lo i x e
  ·have:=h.ch.size;dsimp only;omega
 ·rcases one i x e with e1|⟨h1,rfl⟩
  ·rcases one j y e' with e2|⟨h2,rfl⟩
   ·exact h.df i j x y e1 e2 hne
   ·have:=(h.blk i x e1).lt;dsimp only;omega
  ·rcases one j y e' with e2|⟨h2,rfl⟩
   ·have:=(h.blk j y e2).lt;dsimp only;omega
   ·omega
 ·rcases one i x e with e|⟨_,rfl⟩
  ·exact h4 i j x e
  ·exact fun hf=>by have:=(h3 j b hf).2;omega
theorem Sys.set (h:Sys w0 w bs ts)(i:Nat){b:Nat}{vs vs':List Value}{ty:TypeId}(hi:bs[i]? =some (b,vs,ty))(hc:Ch (fun j=>j=b) w w')(hb:Blk w' b vs' ty):Sys w0 w' (bs.set i (b,vs',ty)) ts:=by
 obtain⟨F,h1,h2,h3,h4⟩:=h.tm
 have hlo:=h.lo i _ hi
 have hlen:i<bs.length:=(List.getElem?_eq_some_iff.1 hi).1
 have key:∀j x,(bs.set i (b,vs',ty))[j]? =some x->(j=i/\x=(b,vs',ty))\/(j≠i/\bs[j]? =some x):=fun j x e=>by
  by_cases hj:j=i
  ·subst hj;rw[List.getElem?_set_self hlen]at e;exact .inl ⟨rfl,(Option.some.inj e).symm⟩
  ·rw[List.getElem?_set_ne (fun h=>hj h.symm)]at e;exact .inr ⟨hj,e⟩
 have nF:∀j,¬F j b:=fun j=>h4 i j _ hi
 refine⟨h.ch.trans hc (fun k hk e=>by dsimp only at hlo;omega),qat hc h.lt (fun k e=>by have:=h.top;dsimp only at hlo;omega),h.top,fun j x e=>?_,fun j x e=>?_,fun j k x y e e' hne=>?_,F,fun j x e=>⟨(h1 j x e).1.ch hc (fun k hk e'=>nF j (e'▸hk)),(h1 j x e).2⟩,h2,fun j k hk=>⟨(h3 j k hk).1,Nat.lt_of_lt_of_le (h3 j k hk).2 hc.size⟩,fun j k x e=>?_⟩
 ·rcases key j x e with⟨_,rfl⟩|⟨hj,e⟩
  ·exact hb
  ·exact(h.blk j x e).ch hc (h.df j i x _ e hi hj)
 ·rcases key j x e with⟨_,rfl⟩|⟨hj,e⟩
  ·exact hlo
  ·exact h.lo j x e
 ·rcases key j x e with⟨h5,rfl⟩|⟨hj,e⟩
  ·rcases key k y e' with⟨h6,rfl⟩|⟨hk,e'⟩
   ·omega
   ·exact h.df i k (b,vs,ty) y hi e' (by omega)
  ·rcases key k y e' with⟨h6,rfl⟩|⟨hk,e'⟩
   ·exact h.df j i x (b,vs,ty) e hi hj
   ·exact h.df j k x y e e' hne
 ·rcases key j x e with⟨_,rfl⟩|⟨hj,e⟩
  ·exact nF k
  ·exact h4 j k x e
theorem Sys.pre {bs':List (Nat×List Value×TypeId)}(h:Sys w0 w (bs++bs') ts):Sys w0 w bs ts:=by
 obtain⟨F,h1,h2,h3,h4⟩:=h.tm
 have key:∀(i:Nat) x,bs[i]? =some x->(bs++bs')[i]? =some x:=fun i x e=>by rw[List.getElem?_append_left (List.getElem?_eq_some_iff.1 e).1];exact e
 exact⟨h.ch,h.lt,h.top,fun i x e=>h.blk i x (key i x e),fun i x e=>h.lo i x (key i x e),fun i j x y e e'=>h.df i j x y (key i x e) (key j y e'),F,h1,h2,h3,fun i j x e=>h4 i j x (key i x e)⟩
theorem Sys.new (h:Sys w0 w bs ts)(p1 p2:Int):Calls Tryz.prog 31 [.int .i64 p1,.int .i64 p2].toArray w fun e w'=> ∃t,e= .returned (.pointer (some ⟨t,0,none⟩))/\Sys w0 w' bs (ts++[(t,startT zeroT p1 p2)])/\Ch (fun _=>False) w w':=by
 refine(qeK p1 p2 w h.lt (Nat.le_trans h.top h.ch.size)).mono fun e w' ⟨t,he,hA,hc⟩=>⟨t,he,?_,hc⟩
 obtain⟨F,h1,h2,h3,h4⟩:=h.tm
 have h':=h.same hc
 have hz:=hc.size
 have hz0:=h.ch.size
 have ht:TermAt w' t (startT zeroT p1 p2) (fun b=>w.heap.size<=b/\b<w'.heap.size):=hA
 refine⟨h'.ch,h'.lt,h'.top,h'.blk,h'.lo,h'.df,fun i b=>if i=ts.length then w.heap.size<=b/\b<w'.heap.size else i<ts.length/\F i b,fun i x e=>?_,fun i j hij b hb hb'=>?_,fun i b hb=>?_,fun i j x e hb=>?_⟩
 ·rcases Nat.lt_or_ge i ts.length with hi|hi
  ·rw[List.getElem?_append_left hi]at e
   refine⟨?_,(h1 i x e).2⟩
   have e2:(fun b=>if i=ts.length then w.heap.size<=b/\b<w'.heap.size else i<ts.length/\F i b)=F i:=by
    funext b;rw[if_neg (by omega)];exact propext ⟨fun h=>h.2,fun h=>⟨hi,h⟩⟩
   show TermAt w' x.1 x.2 (fun b=>if i=ts.length then w.heap.size<=b/\b<w'.heap.size else i<ts.length/\F i b)
   rw[e2]
   exact(h1 i x e).1.ch hc (fun _ _ h=>h)
  ·rw[List.getElem?_append_right hi]at e
   rcases Nat.eq_zero_or_pos (i-ts.length)with h0|h0
   ·rw[h0]at e
    obtain rfl:=(Option.some.inj e).symm
    obtain rfl:i=ts.length:=by omega
    simp only[if_true]
    exact⟨ht,qhK p1 p2⟩
   ·rw[List.getElem?_eq_none (by simp only[List.length_cons,List.length_nil];omega)]at e;cases e
 ·dsimp only at hb hb'
  split at hb
  ·split at hb'
   ·omega
   ·have:=(h3 j b hb'.2).2;omega
  ·split at hb'
   ·have:=(h3 i b hb.2).2;omega
   ·exact h2 i j hij b hb.2 hb'.2
 ·dsimp only at hb
  split at hb
  ·omega
  ·have:=h3 i b hb.2;omega
 ·dsimp only at hb
  split at hb
  ·have:=(h.blk i x e).lt;omega
  ·exact h4 i j x e hb.2
theorem Sys.step (h:Sys w0 w bs ts){i t:Nat}{T T':TS}(hi:ts[i]? =some (t,T)){k:FuncId}{args:Array Value}{v:Value}
  (hk:∀F,TermAt w t T F->LT w->Fine T->Calls Tryz.prog k args w fun e w'=>e= .returned v/\TermAt w' t T' (more F w w')/\Ch F w w') (hf:Fine T->Fine T'):
  Calls Tryz.prog k args w fun e w'=>e= .returned v/\Sys w0 w' bs (ts.set i (t,T')):=by
 obtain⟨F,h1,h2,h3,h4⟩:=h.tm
 have hlen:i<ts.length:=(List.getElem?_eq_some_iff.1 hi).1
 refine(hk (F i) (h1 i _ hi).1 h.lt (h1 i _ hi).2).mono fun e w' ⟨he,hA,hc⟩=>⟨he,?_⟩
 have hz:=hc.size
 refine⟨Ch.trans h.ch hc (fun b hb hb'=>?_),qat hc h.lt (fun b hb=>by have:=h3 i b hb;have:=h.top;omega),h.top,fun j x e=>(h.blk j x e).ch hc (h4 j i x e),h.lo,h.df,fun j b=>if j=i then more (F i) w w' b else F j b,fun j x e=>?_,fun j k hjk b hb hb'=>?_,fun j b hb=>?_,fun j k x e hb=>?_⟩
 ·have:=(h3 i b hb').1;omega
 ·by_cases hj:j=i
  ·subst hj
   rw[List.getElem?_set_self hlen]at e
   obtain rfl:=(Option.some.inj e).symm
   simp only[if_true]
   exact⟨hA,hf (h1 j _ hi).2⟩
  ·rw[List.getElem?_set_ne (fun h=>hj h.symm)]at e
   simp only[if_neg hj]
   exact⟨(h1 j x e).1.ch hc (fun b hb=>h2 j i hj b hb),(h1 j x e).2⟩
 ·dsimp only at hb hb'
  split at hb
  ·rename_i hji
   subst hji
   rw[if_neg (fun h=>hjk h.symm)]at hb'
   rcases hb with hb|hb
   ·exact h2 j k hjk b hb hb'
   ·have:=(h3 k b hb').2;omega
  ·split at hb'
   ·rename_i hji hki
    subst hki
    rcases hb' with hb'|hb'
    ·exact h2 j k hjk b hb hb'
    ·have:=(h3 j b hb).2;omega
   ·exact h2 j k hjk b hb hb'
 ·dsimp only at hb
  have hz0:=h.ch.size
  split at hb
  ·rcases hb with hb|hb
   ·have:=h3 i b hb;omega
   ·omega
  ·have:=h3 j b hb;omega
 ·dsimp only at hb
  split at hb
  ·rcases hb with hb|hb
   ·exact h4 j i x e hb
   ·have:=(h.blk j x e).lt;omega
  ·exact h4 j k x e hb
theorem Sys.look (h:Sys w0 w bs ts){k:FuncId}{args:Array Value}{v:Value}(hk:Calls Tryz.prog k args w fun e w'=>e= .returned v/\Ch (fun _=>False) w w'):Calls Tryz.prog k args w fun e w'=>e= .returned v/\Sys w0 w' bs ts:=
 hk.mono fun _ _ ⟨he,hc⟩=>⟨he,h.same hc⟩
theorem Sys.at (h:Sys w0 w bs ts){i t:Nat}{T:TS}(hi:ts[i]? =some (t,T)):∃F,TermAt w t T F:=by
 obtain⟨F,h1,_⟩:=h.tm
 exact⟨_,(h1 i _ hi).1⟩
theorem Sys.fine (h:Sys w0 w bs ts){i t:Nat}{T:TS}(hi:ts[i]? =some (t,T)):Fine T:=by
 obtain⟨F,h1,_⟩:=h.tm
 exact(h1 i _ hi).2
theorem Sys.cell (h:Sys w0 w bs ts){i t:Nat}{T:TS}(hi:ts[i]? =some (t,T))(c:Nat){v:Value}(hv:∀g o bk ps,(T.vals g o bk ps)[c]? =some v):w.cell? ⟨t,c,none⟩=some v:=by
 obtain⟨F,g,o,ba,bn,bc,pa,pn,pc,F1,F2,FB,FP,hI⟩:=h.at hi
 exact(hI.blk.cell c).trans (hv _ _ _ _)
theorem Sys.grid (h:Sys w0 w bs ts){i t:Nat}{T:TS}(hi:ts[i]? =some (t,T)):∃g F,w.cell? ⟨t,0,none⟩=some (.pointer (some ⟨g,0,none⟩))/\GridAt w g T.grid F:=by
 obtain⟨F,g,o,ba,bn,bc,pa,pn,pc,F1,F2,FB,FP,hI⟩:=h.at hi
 exact⟨g,F1,(hI.blk.cell 0).trans rfl,hI.g1⟩
theorem Sys.other (h:Sys w0 w bs ts){i t:Nat}{T:TS}(hi:ts[i]? =some (t,T)):∃g F,w.cell? ⟨t,1,none⟩=some (.pointer (some ⟨g,0,none⟩))/\GridAt w g T.other F:=by
 obtain⟨F,g,o,ba,bn,bc,pa,pn,pc,F1,F2,FB,FP,hI⟩:=h.at hi
 exact⟨o,F2,(hI.blk.cell 1).trans rfl,hI.g2⟩
theorem Sys.outs (h:Sys w0 w bs ts){i t:Nat}{T:TS}(hi:ts[i]? =some (t,T)):∃ba bn bc rows FB,w.cell? ⟨t,97,none⟩=some (.slice ba bn bc)/\bn=T.back.length/\LinesAt w ba bn rows FB/\rows.map Row.l=T.back/\(ba=none\/ ∃b off,ba=some ⟨b,off,none⟩):=by
 obtain⟨F,g,o,ba,bn,bc,pa,pn,pc,F1,F2,FB,FP,hI⟩:=h.at hi
 obtain⟨rows,hL,hm⟩:=hI.bk
 exact⟨ba,bn,bc,rows,FB,(hI.blk.cell 97).trans (by kernel_rfl),by rw[<-hm,List.length_map,hL.len],hL,hm,hI.bz⟩
theorem Fine.back {T:TS}(h:Fine T):T.back.length<=1000:=by obtain⟨⟨W,H,h⟩,_⟩:=h;exact Nat.le_trans h.bk (by decide)
theorem Fine.params {T:TS}(h:Fine T):T.parser.params.length<=1000:=Nat.le_trans h.2.n (by decide)
end
end Go.Proofs.YtjjcnhgpccancaaGreatDoor.X

namespace Go.Proofs.YtjjcnhgpccancaaGreatDoor.X
open Go Go.RowKit Go.Proofs.YtjjcnhgpccancaaGreatDoor
def PS.gr (p:PS):Prop:=p.state=0->p={atP 0 with utf:=p.utf}
abbrev b24:ByteArray:=⟨#[24]⟩
end Go.Proofs.YtjjcnhgpccancaaGreatDoor.X

namespace Go.Proofs.YtjjcnhgpccancaaGreatDoor.X
open Go Go.RowKit Go.Proofs.YtjjcnhgpccancaaGreatDoor
structure Kp (T U:TS):Prop where
 alt:U.alt=true
 other:U.other=T.other
 away:U.away=T.away
 saved:U.saved=T.saved
 top:U.top=T.top
 bot:U.bot=T.bot
 title:U.title=T.title
 back:U.back=T.back
theorem Kp.refl {T:TS}(h:T.alt=true):Kp T T:=⟨h,rfl,rfl,rfl,rfl,rfl,rfl,rfl⟩
theorem Kp.trans {T U V:TS}(h:Kp T U)(k:Kp U V):Kp T V:=⟨k.alt,k.other.trans h.other,k.away.trans h.away,k.saved.trans h.saved,k.top.trans h.top,k.bot.trans h.bot,k.title.trans h.title,k.back.trans h.back⟩
section
variable {w w':World}{t g o:Nat}{ba:Option Addr}{bn bc:Nat}{pa:Option Addr}{pn pc:Nat}{T:TS}{F F1 F2 FB FP:Nat->Prop}
theorem TermIn.grid2 (h:TermIn w t g o ba bn bc pa pn pc T F F1 F2 FB FP)(hc:Ch F2 w w'){G':Gr}{F2':Nat->Prop}(hG:GridAt w' o G' F2')(hF:∀b,F2' b->more F2 w w' b):
  TermIn w' t g o ba bn bc pa pn pc ({T with other:=G'}:TS) (more F w w') F1 F2' FB FP:=by
 have hlt1:∀b,F1 b->b<w.heap.size:=h.g1.lt
 have hltF:∀b,F b->b<w.heap.size:=h.lt
 have htl:=h.blk.lt
 obtain⟨rows,hL,hl⟩:=h.bk
 have ap:∀(X:Nat->Prop),(∀b,X b->F b)->(∀b,F2 b-> ¬X b)-> ∀b,F2' b-> ¬X b:=fun X hX ha b hb hx=>by
  rcases hF b hb with h1|h1
  ·exact ha b h1 hx
  ·have:=hltF b (hX b hx);omega
 exact
 {blk:=h.blk.ch hc h.t2
  g1:=h.g1.ch hc fun b h1 h2=>h.a12 b h1 h2
  g2:=hG
  bk:=⟨rows,hL.ch hc fun b hb h1=>h.a2B b h1 hb,hl⟩
  bcap:=h.bcap
  ps:=⟨h.ps.1.ch hc fun ad e h1=>h.a2P _ h1 (h.ps.2.2.2 ad e),h.ps.2⟩
  pz:=h.pz
  bz:=h.bz
  t1:=h.t1
  t2:=fun hb=>by
   rcases hF t hb with h1|h1
   ·exact h.t2 h1
   ·omega
  tB:=h.tB,tP:=h.tP
  a12:=fun b h1 h2=>ap F1 h.inF.2.1 (fun b h2 h1=>h.a12 b h1 h2) b h2 h1
  a1B:=h.a1B
  a2B:=ap FB h.inF.2.2.2.1 h.a2B
  a1P:=h.a1P
  a2P:=ap FP h.inF.2.2.2.2 h.a2P
  inF:=⟨.inl h.inF.1,fun b hb=> .inl (h.inF.2.1 b hb),fun b hb=>(hF b hb).elim (fun h1=> .inl (h.inF.2.2.1 b h1)) .inr,fun b hb=> .inl (h.inF.2.2.2.1 b hb),fun b hb=> .inl (h.inF.2.2.2.2 b hb)⟩
  lt:=fun b hb=>hb.elim (fun hb=>Nat.lt_of_lt_of_le (hltF b hb) hc.size) fun hb=>hb.2
  hi:=fun b hb=>hb.elim (h.hi b) fun hb=>by have:=h.hi t h.inF.1;omega}
theorem TermIn.chF2 (h:TermIn w t g o ba bn bc pa pn pc T F F1 F2 FB FP)(hc:Ch F2 w w'):Ch F w w':=hc.mono fun b _ hb=>h.inF.2.2.1 b hb
end
def qjP (p:Int):Int:=min (max p 1) 60
def upI (T:TS)(p2:Int):Int:=max (T.cursor.y-qjP p2+1) 0
def fixC (c:Cur)(w h:Int):Cur:=⟨min c.x (w-1),min c.y (h-1),c.late&&((c.x:Int)==w-1),c.sty⟩
def rs1 (T:TS)(p1 p2:Int):TS:=
 if T.alt=true then{T with grid:=qdX T.grid p1 (qjP p2) (upI T p2)}
 else{T with grid:=qdX T.grid p1 (qjP p2) (upI T p2),back:=qhh T.back (T.grid.lines.take (qfX T.grid (upI T p2)).toNat)}
def rs2 (T:TS)(p1 p2:Int):TS:={rs1 T p1 p2 with other:=qdX (rs1 T p1 p2).other p1 (qjP p2) 0}
def qcz (T:TS)(p1 p2:Int):TS:=
 {rs2 T p1 p2 with
  top:=0,bot:=(rs2 T p1 p2).grid.h
  cursor:=fixC ⟨(rs2 T p1 p2).cursor.x,(rs2 T p1 p2).cursor.y-upI T p2,(rs2 T p1 p2).cursor.late,(rs2 T p1 p2).cursor.sty⟩ (rs2 T p1 p2).grid.w (rs2 T p1 p2).grid.h
  saved:=fixC (rs2 T p1 p2).saved (rs2 T p1 p2).grid.w (rs2 T p1 p2).grid.h
  away:=fixC (rs2 T p1 p2).away (rs2 T p1 p2).grid.w (rs2 T p1 p2).grid.h}
theorem rs1_f (T:TS)(p1 p2:Int):(rs1 T p1 p2).cursor=T.cursor/\(rs1 T p1 p2).saved=T.saved/\(rs1 T p1 p2).away=T.away/\(rs1 T p1 p2).other=T.other/\(rs1 T p1 p2).reply=T.reply/\(rs1 T p1 p2).parser=T.parser/\(rs1 T p1 p2).alt=T.alt/\
  (rs1 T p1 p2).grid.w=qi p1/\(rs1 T p1 p2).grid.h=qi (qjP p2):=by
 unfold rs1
 split<;>exact⟨rfl,rfl,rfl,rfl,rfl,rfl,rfl,rfl,rfl⟩
theorem qkU (p:Int):1<=qjP p/\qjP p<=60/\qi (qjP p)=qjP p/\qi p=qjP p:=by unfold qjP qi;omega
theorem rs2_f (T:TS)(p1 p2:Int):(rs2 T p1 p2).cursor=T.cursor/\(rs2 T p1 p2).saved=T.saved/\(rs2 T p1 p2).away=T.away/\(rs2 T p1 p2).grid.w=qi p1/\(rs2 T p1 p2).grid.h=qjP p2/\(rs2 T p1 p2).reply=T.reply/\(rs2 T p1 p2).parser=T.parser:=by
 obtain⟨h1,h2,h3,h4,h5,h6,h7,h8,h9⟩:=rs1_f T p1 p2
 have hb:=qkU p2
 exact⟨h1,h2,h3,h8,by show(rs1 T p1 p2).grid.h=_;omega,h5,h6⟩
theorem rs1_back {W H:Int}{T:TS}(h:Lim W H T)(p1 p2:Int):(rs1 T p1 p2).back.length<=20:=by
 unfold rs1
 split
 ·exact h.bk
 ·exact qjz _ _
theorem qhL {W H:Int}{T:TS}(h:Lim W H T)(p1 p2:Int):Lim (qi p1) (qi p2) (qcz T p1 p2):=by
 obtain⟨e1,e2,e3,e4,e5,e6,e7⟩:=rs2_f T p1 p2
 have hb:=qkU p2
 have hs1:1<=qi p1/\qi p1<=60:=by unfold qi;omega
 obtain⟨⟨c1,c2⟩,c3,c4⟩:=h.cu
 obtain⟨⟨s1,s2⟩,s3,s4⟩:=h.sa
 obtain⟨⟨a1,a2⟩,a3,a4⟩:=h.aw
 refine⟨hs1,by omega,⟨e4,by show(rs2 T p1 p2).grid.h=_;omega⟩,⟨rfl,by show qi (qjP p2)=_;omega⟩,?_,?_,?_,?_,rs1_back h p1 p2,by show(rs2 T p1 p2).reply.size<=400;rw[e6];exact h.rp⟩
 ·show(0<=min (rs2 T p1 p2).cursor.x ((rs2 T p1 p2).grid.w-1)/\min (rs2 T p1 p2).cursor.x ((rs2 T p1 p2).grid.w-1)<_)/\0<=min ((rs2 T p1 p2).cursor.y-upI T p2) ((rs2 T p1 p2).grid.h-1)/\min ((rs2 T p1 p2).cursor.y-upI T p2) ((rs2 T p1 p2).grid.h-1)<_
  rw[e1,e4,e5];unfold upI;omega
 ·show(0<=min (rs2 T p1 p2).saved.x ((rs2 T p1 p2).grid.w-1)/\min (rs2 T p1 p2).saved.x ((rs2 T p1 p2).grid.w-1)<_)/\0<=min (rs2 T p1 p2).saved.y ((rs2 T p1 p2).grid.h-1)/\min (rs2 T p1 p2).saved.y ((rs2 T p1 p2).grid.h-1)<_
  rw[e2,e4,e5];omega
 ·show(0<=min (rs2 T p1 p2).away.x ((rs2 T p1 p2).grid.w-1)/\min (rs2 T p1 p2).away.x ((rs2 T p1 p2).grid.w-1)<_)/\0<=min (rs2 T p1 p2).away.y ((rs2 T p1 p2).grid.h-1)/\min (rs2 T p1 p2).away.y ((rs2 T p1 p2).grid.h-1)<_
  rw[e3,e4,e5];omega
 ·show 0<=(0:Int)/\(0:Int)<(rs2 T p1 p2).grid.h/\(rs2 T p1 p2).grid.h<=_
  rw[e5];omega
theorem qeL (T:TS)(p1 p2:Int):(qcz T p1 p2).parser=T.parser:=(rs2_f T p1 p2).2.2.2.2.2.2
theorem qjQ {w:World}{t:Nat}{W H:Int}{T:TS}{F:Nat->Prop}(hA0:TermAt w t T F)(hT:LT w)(hL:Lim W H T)(p1 p2:Int):Calls Tryz.prog 84 [pX t,iX p1,iX p2].toArray w fun e w'=>e= .returned (.tuple #[])/\TermAt w' t (qcz T p1 p2) (more F w w')/\Ch F w w':=by
 obtain⟨g,o,ba,bn,bc,pa,pn,pc,F1,F2,FB,FP,hI⟩:=hA0;have hA0:TermAt w t T F:=⟨g,o,ba,bn,bc,pa,pn,pc,F1,F2,FB,FP,hI⟩
 have aW:=hI.inF.1;obtain⟨gv,cu⟩:=hI.g1.head;have cv:Df t g:=fun e=>hI.t1 (e▸hI.g1.inF);obtain⟨⟨cw,cx⟩,⟨cy,cz⟩,cA,cB⟩:=hI.g1.ok;have aX:=hL;have cC:=aX.all;refine yA Tryz.func84 rfl<|yx 4<|ysr<|yp 10 [] (.l (hI.blk.c 3) (.q6 (T.cursor.y-(min ((max (p2:Int) 1):Int) 60)) (.q6 ((T.cursor.y-(min ((max (p2:Int) 1):Int) 60))+1) .z)))<|ye<|ysr<|yp 7 [] (.l (hI.blk.c 0) .z)<|yo (yC (qht g T.grid F1 p1 (qjP p2) (upI T p2) _ hT.tb hI.g1) ?_);rintro _ X ⟨ro,n1,cD,aY,K1,rfl,ag,ah,hG,hF,hK,b0,hc⟩;refine⟨_,rfl,?_⟩;have E:=hI.grid1 hc hG hF;have C:=hI.chF hc;have b1:=qat C hT (fun b hb=>hI.hi b hb);have b2:∀b,K1 b->more F w X b/\ ¬aY b/\ ¬F2 b/\b≠t:=fun b hb=>by
  have f:=hK b hb;refine⟨f.elim (fun h=> .inl (hI.inF.2.1 b h)) .inr,fun h=>b0 b h hb,fun h=>?_,fun h=>?_⟩
  ·rcases f with f|f
   ·exact hI.a12 b f h
   have:=hI.g2.lt b h;omega
  rcases f with f|f
  ·exact hI.t1 (h▸f)
  have:=hI.blk.lt;omega
 have b3:n1<=1000:=by
  have h1:=ag.len;have f:=congrArg List.length ah;rw[List.length_map,List.length_take]at f;omega
 refine yz 9<|qaJ ([(0,pX t),(1,iX p1),(2,iX (qjP p2)),(6,iX (upI T p2))]) (fun u=>TermAt u t (rs1 T p1 p2) (more F w u)/\Ch F w u/\LT u) (fun cE aj=>?_) (fun u13 b4=>?_)
 ·refine ysr<|yp 5 [] (.l (E.blk.c 95) .z)<|ye<|yc (rN (rY T.alt)) (fun Y=>?_) fun Y=>?_
  ·refine q7<|yq 2<|yo (yC (qlB (lc:=n1) E ag (fun e=>by cases e) b2 (by have:=hI.bk;obtain⟨rr,h1,f⟩:=this;have h3:=h1.len;have h4:rr.length=T.back.length:=(by have h5:=congrArg List.length f;rw[List.length_map]at h5;exact h5);omega) b3) ?_);rintro _ al ⟨cH,cI,cJ,rfl,b5,O⟩;refine⟨_,rfl,?_⟩;refine yE (fun a ha=>aj _ ⟨TermAt.eq' (show TermAt al t _ (more F w al)from⟨_,_,_,_,_,_,_,_,_,_,_,_,b5.mono (qc7 C.size O.size) (hI.moreOk (Nat.le_trans C.size O.size))⟩) (by unfold rs1;rw[if_neg (by rw[Y];decide),<-ah]),Ch.more C (E.cht O),qat (Ch.more C (E.cht O)) hT (fun b hb=>hI.hi b hb)⟩ a (ha.kp [0,1,2,6]))
  refine qk (fun a ha=>aj _ ⟨TermAt.eq' (show TermAt X t _ (more F w X)from⟨_,_,_,_,_,_,_,_,_,_,_,_,E⟩) (by unfold rs1;rw[if_pos Y]),C,b1⟩ a (ha.kp [0,1,2,6]))
 obtain⟨⟨j,k,n,p,q,r,s,v,b6,b7,b8,b9,P⟩,am,bb⟩:=b4;refine ysr<|yp 6 [] (.l (P.blk.c 1) .z)<|yo (yC (qht k (rs1 T p1 p2).other b7 p1 (qjP p2) 0 _ bb.tb P.g2) ?_);rintro _ B ⟨cK,n6,cM,bd,K6,rfl,cO,cP,bf,bg,cQ,cR,an⟩;refine⟨_,rfl,?_⟩;have D:TermIn B t j k n p q r s v (rs2 T p1 p2) (more (more F w u13) u13 B) b6 bd b8 b9:=P.grid2 an bf bg;have ao:=P.chF2 an;have bh:=Ch.more am ao;obtain⟨d1,d2,d3,d4,d5,d6,d7⟩:=rs2_f T p1 p2;have cW:(rs2 T p1 p2).cursor.x=T.cursor.x:=by rw[d1]
 have cX:(rs2 T p1 p2).cursor.y=T.cursor.y:=by rw[d1]
 have cY:(rs2 T p1 p2).saved.x=T.saved.x:=by rw[d2]
 have cZ:(rs2 T p1 p2).saved.y=T.saved.y:=by rw[d2]
 have d0:(rs2 T p1 p2).away.x=T.away.x:=by rw[d3]
 have d8:(rs2 T p1 p2).away.y=T.away.y:=by rw[d3]
 have d9:=qkU p2;have da:1<=qi p1/\qi p1<=60:=by unfold qi;omega
 have db:0<=upI T p2/\upI T p2<=60:=by unfold upI;omega
 obtain⟨dc,G⟩:=D.g1.head;have A:Df t j:=fun e=>D.t1 (e▸D.g1.inF);refine ye<|ysr<|yp 11 [] (.l (D.blk.c 0) (.l (G.c 1) .z))<|yo (yS D.blk fun dd bi au=>?_);have bj:=zt (Ch.refl (· =t) B) au (fun i hi (h:i=t)=>h);have bl:=G.ch au (fun h=>A h.symm);refine yq 14<|yo (yS bi fun de av aw=>?_);have bm:=zt bj aw (fun i hi (h:i=t)=>h);have bo:=bl.ch aw (fun h=>A h.symm);refine ye<|ysr<|yp 10 [] (.l (av.c 3) (.q6 ((rs2 T p1 p2).cursor.y-(upI T p2)) .z))<|yo (yS av fun df bp ax=>?_);have bq:=zt bm ax (fun i hi (h:i=t)=>h);have br:=bo.ch ax (fun h=>A h.symm);refine ye<|ys<|yD [9] fun dg dh Z=>?_;have ay:=zt bq Z eZ;have bs:=br.ch Z id;have m:=bp.ch Z id;refine yd [0,1,2,3,4,5,6,7,8,11] [] .z<|yK 9 (yB [.pointer (some ⟨t,2,none⟩),.pointer (some ⟨t,10,none⟩),.pointer (some ⟨t,18,none⟩)] 167 3 fun di d bt dj az a0=>?_);have dk:B.heap.size<=d:=by rw[bt];exact zzs ay
 have bu:=zt ay a0 eZ;have bv:=bs.ch a0 id;have bw:=m.ch a0 id;refine q8<|yd [10] [] .z<|yDe (nS ?_);refine qa<|yU 4 (yU1 ?_);refine yx 1<|ys<|yct<|yk<|ys<|qa<|ysr<|yp 3 [] (.i 0 (3) (.l (az.c 0) .z))<|ye<|qaJ ([(0,pX t),(9,.pointer (some ⟨t,2,none⟩)),(77,.slice (some ⟨d,0,none⟩) 3 3),(78,iX 3),(79,iX 0)]) (fun u=>Blk u t (TS.vals ({(rs2 T p1 p2)with cursor:=(Cur.mk (rs2 T p1 p2).cursor.x ((rs2 T p1 p2).cursor.y-(upI T p2)) ((rs2 T p1 p2).cursor.late&&(((rs2 T p1 p2).cursor.x:Int)==(rs2 T p1 p2).grid.w-1)) (rs2 T p1 p2).cursor.sty),top:=0,bot:=(rs2 T p1 p2).grid.h}:TS) j k (.slice n p q) (.slice r s v)) qap/\Ch (· =t) B u/\Blk u d [.pointer (some ⟨t,2,none⟩),.pointer (some ⟨t,10,none⟩),.pointer (some ⟨t,18,none⟩)] 167) (fun dl aA=>?_) (fun u54 bx=>?_)
 ·refine yD [22] fun dm dn Q=>?_;have aB:=zt bu Q eZ;have bz:=bv.ch Q id;have I:=bw.ch Q id;have aC:=az.ch Q id;refine yd (uL 0 6) [] (.l (I.c 4) .z)<|yv [88] (rY (rs2 T p1 p2).cursor.late) (fun a1=>?_) fun a1=>?_
  ·refine yd (uL 6 16) [] (.l (I.c 2) (.l (I.c 0) (.l (bz.c 0) (.q6 ((rs2 T p1 p2).grid.w-1) .z))))<|yK 22 (yS I fun dp bA aD=>?_);have bB:=zt aB aD (fun i hi (h:i=t)=>h);have bC:=aC.ch aD (fun(h:d=t)=>by have:=m.lt;omega);refine q8<|yDe (fun a ha=>aA _ ⟨Blk.to (Blk.to (cs':=(TS.vals ({(rs2 T p1 p2)with cursor:=(Cur.mk (rs2 T p1 p2).cursor.x ((rs2 T p1 p2).cursor.y-(upI T p2)) (((rs2 T p1 p2).cursor.x:Int)==((rs2 T p1 p2).grid.w-1)) (rs2 T p1 p2).cursor.sty),top:=0,bot:=(rs2 T p1 p2).grid.h}:TS) j k (.slice n p q) (.slice r s v))) bA (by kernel_rfl)) (by simp only[a1,Bool.true_and,Bool.false_and]),bB,bC⟩ a (ha.kp [0,9,77,78,79]))
  refine yd (uL 6 16) [] .z<|yK 22 (yS I fun dq bD aE=>?_);have bE:=zt aB aE (fun i hi (h:i=t)=>h);have bF:=aC.ch aE (fun(h:d=t)=>by have:=m.lt;omega);refine q8<|yDe (fun a ha=>aA _ ⟨Blk.to (Blk.to (cs':=(TS.vals ({(rs2 T p1 p2)with cursor:=(Cur.mk (rs2 T p1 p2).cursor.x ((rs2 T p1 p2).cursor.y-(upI T p2)) false (rs2 T p1 p2).cursor.sty),top:=0,bot:=(rs2 T p1 p2).grid.h}:TS) j k (.slice n p q) (.slice r s v))) bD (by kernel_rfl)) (by simp only[a1,Bool.true_and,Bool.false_and]),bE,bF⟩ a (ha.kp [0,9,77,78,79]))
 obtain⟨bG,aF,bH⟩:=bx;have bI:=G.ch aF (fun h=>A h.symm);refine yD [30,33] fun dr ds R=>?_;have bJ:=zt aF R eZ;have a2:=bI.ch R id;have J:=bG.ch R id;have bK:=bH.ch R id;refine yd (uL 0 26) [] (.l (J.c 2) (.l (J.c 0) (.l (a2.c 0) (.q6 ((rs2 T p1 p2).grid.w-1) (.l (J.c 3) (.l (J.c 0) (.l (a2.c 1) .z)))))))<|ydT (uL 26 4) [] rfl (fun _=>(.q6 ((rs2 T p1 p2).grid.h-1) .z))<|yK 30 (yS J fun dt bL a3=>?_);have bM:=zt bJ a3 (fun i hi (h:i=t)=>h);have bN:=a2.ch a3 (fun h=>A h.symm);have bO:=bK.ch a3 (fun(h:d=t)=>by have:=m.lt;omega);refine q8<|yd [31,32] [] .z<|yK 33 (yS bL fun du bP a4=>?_);have bQ:=zt bM a4 (fun i hi (h:i=t)=>h);have bR:=bN.ch a4 (fun h=>A h.symm);have aG:=bO.ch a4 (fun(h:d=t)=>by have:=m.lt;omega);refine q8<|yDe (nB (nS ?_));refine q7<|yp 2 [] (.q6 1 .z)<|yE (nU (yU1 ?_));refine yx 1<|ys<|yct<|yk<|ys<|qa<|ysr<|yp 3 [] (.i 1 (3) (.l (aG.c 1) .z))<|ye<|qaJ ([(0,pX t),(9,.pointer (some ⟨t,10,none⟩)),(77,.slice (some ⟨d,0,none⟩) 3 3),(78,iX 3),(79,iX 1)]) (fun u=>Blk u t (TS.vals ({(rs2 T p1 p2)with cursor:=(Cur.mk (min ((rs2 T p1 p2).cursor.x:Int) ((rs2 T p1 p2).grid.w-1)) (min (((rs2 T p1 p2).cursor.y-(upI T p2)):Int) ((rs2 T p1 p2).grid.h-1)) ((rs2 T p1 p2).cursor.late&&(((rs2 T p1 p2).cursor.x:Int)==(rs2 T p1 p2).grid.w-1)) (rs2 T p1 p2).cursor.sty),saved:=(Cur.mk (rs2 T p1 p2).saved.x (rs2 T p1 p2).saved.y ((rs2 T p1 p2).saved.late&&(((rs2 T p1 p2).saved.x:Int)==(rs2 T p1 p2).grid.w-1)) (rs2 T p1 p2).saved.sty),top:=0,bot:=(rs2 T p1 p2).grid.h}:TS) j k (.slice n p q) (.slice r s v)) qap/\Ch (· =t) B u/\Blk u d [.pointer (some ⟨t,2,none⟩),.pointer (some ⟨t,10,none⟩),.pointer (some ⟨t,18,none⟩)] 167) (fun dv aH=>?_) (fun u105 bS=>?_)
 ·refine yD [22] fun dw dx S=>?_;have aI:=zt bQ S eZ;have bT:=bR.ch S id;have aJ:=aG.ch S id;have K:=bP.ch S id;refine yd (uL 0 6) [] (.l (K.c 12) .z)<|yv [88] (rY (rs2 T p1 p2).saved.late) (fun a5=>?_) fun a5=>?_
  ·refine yd (uL 6 16) [] (.l (K.c 10) (.l (K.c 0) (.l (bT.c 0) (.q6 ((rs2 T p1 p2).grid.w-1) .z))))<|dkeep [0,9,77,78,79,102,104] (f':=[(0,pX t),(9,.pointer (some ⟨t,10,none⟩)),(77,.slice (some ⟨d,0,none⟩) 3 3),(78,iX 3),(79,iX 1),(102,.bool (((rs2 T p1 p2).saved.x:Int)==((rs2 T p1 p2).grid.w-1))),(104,.pointer (some ⟨t,12,none⟩))])<|yK 22 (yS K fun dy bU aK=>?_);have bV:=zt aI aK (fun i hi (h:i=t)=>h);have bW:=aJ.ch aK (fun(h:d=t)=>by have:=m.lt;omega);refine q8<|yDe (fun a ha=>aH _ ⟨Blk.to (Blk.to (cs':=(TS.vals ({(rs2 T p1 p2)with cursor:=(Cur.mk (min ((rs2 T p1 p2).cursor.x:Int) ((rs2 T p1 p2).grid.w-1)) (min (((rs2 T p1 p2).cursor.y-(upI T p2)):Int) ((rs2 T p1 p2).grid.h-1)) ((rs2 T p1 p2).cursor.late&&(((rs2 T p1 p2).cursor.x:Int)==(rs2 T p1 p2).grid.w-1)) (rs2 T p1 p2).cursor.sty),saved:=(Cur.mk (rs2 T p1 p2).saved.x (rs2 T p1 p2).saved.y (((rs2 T p1 p2).saved.x:Int)==((rs2 T p1 p2).grid.w-1)) (rs2 T p1 p2).saved.sty),top:=0,bot:=(rs2 T p1 p2).grid.h}:TS) j k (.slice n p q) (.slice r s v))) bU (by kernel_rfl)) (by simp only[a5,Bool.true_and,Bool.false_and]),bV,bW⟩ a (ha.kp [0,9,77,78,79]))
  refine yd (uL 6 16) [] .z<|dkeep [0,9,77,78,79,102,104] (f':=[(0,pX t),(9,.pointer (some ⟨t,10,none⟩)),(77,.slice (some ⟨d,0,none⟩) 3 3),(78,iX 3),(79,iX 1),(102,.bool false),(104,.pointer (some ⟨t,12,none⟩))])<|yK 22 (yS K fun dz bX aL=>?_);have bY:=zt aI aL (fun i hi (h:i=t)=>h);have bZ:=aJ.ch aL (fun(h:d=t)=>by have:=m.lt;omega);refine q8<|yDe (fun a ha=>aH _ ⟨Blk.to (Blk.to (cs':=(TS.vals ({(rs2 T p1 p2)with cursor:=(Cur.mk (min ((rs2 T p1 p2).cursor.x:Int) ((rs2 T p1 p2).grid.w-1)) (min (((rs2 T p1 p2).cursor.y-(upI T p2)):Int) ((rs2 T p1 p2).grid.h-1)) ((rs2 T p1 p2).cursor.late&&(((rs2 T p1 p2).cursor.x:Int)==(rs2 T p1 p2).grid.w-1)) (rs2 T p1 p2).cursor.sty),saved:=(Cur.mk (rs2 T p1 p2).saved.x (rs2 T p1 p2).saved.y false (rs2 T p1 p2).saved.sty),top:=0,bot:=(rs2 T p1 p2).grid.h}:TS) j k (.slice n p q) (.slice r s v))) bX (by kernel_rfl)) (by simp only[a5,Bool.true_and,Bool.false_and]),bY,bZ⟩ a (ha.kp [0,9,77,78,79]))
 obtain⟨c0,aM,c1⟩:=bS;have c2:=G.ch aM (fun h=>A h.symm);refine yD [30,33] fun dA dB U=>?_;have c3:=zt aM U eZ;have a6:=c2.ch U id;have c4:=c1.ch U id;have L:=c0.ch U id;refine yd (uL 0 26) [] (.l (L.c 10) (.l (L.c 0) (.l (a6.c 0) (.q6 ((rs2 T p1 p2).grid.w-1) (.l (L.c 11) (.l (L.c 0) (.l (a6.c 1) .z)))))))<|dkeep [0,77,78,79,105,106,119,123,130] (f':=[(0,pX t),(77,.slice (some ⟨d,0,none⟩) 3 3),(78,iX 3),(79,iX 1),(105,.pointer (some ⟨t,10,none⟩)),(106,.pointer (some ⟨t,10,none⟩)),(119,iX (min ((rs2 T p1 p2).saved.x:Int) ((rs2 T p1 p2).grid.w-1))),(123,iX (rs2 T p1 p2).saved.y),(130,iX (rs2 T p1 p2).grid.h)])<|ydT (uL 26 4) [] rfl (fun _=>(.q6 ((rs2 T p1 p2).grid.h-1) .z))<|yK 30 (yS L fun dC c5 a7=>?_);have c6:=zt c3 a7 (fun i hi (h:i=t)=>h);have c7:=a6.ch a7 (fun h=>A h.symm);have c8:=c4.ch a7 (fun(h:d=t)=>by have:=m.lt;omega);refine q8<|yd [31,32] [] .z<|yK 33 (yS c5 fun dD c9 a8=>?_);have ca:=zt c6 a8 (fun i hi (h:i=t)=>h);have cb:=c7.ch a8 (fun h=>A h.symm);have aN:=c8.ch a8 (fun(h:d=t)=>by have:=m.lt;omega);refine q8<|yDe (nB (nS ?_));refine q7<|yp 2 [] (.q6 2 .z)<|yE (nU (yU1 ?_));refine yx 1<|ys<|yct<|yk<|ys<|qa<|ysr<|yp 3 [] (.i 2 (3) (.l (aN.c 2) .z))<|ye<|qaJ ([(0,pX t),(9,.pointer (some ⟨t,18,none⟩)),(77,.slice (some ⟨d,0,none⟩) 3 3),(78,iX 3),(79,iX 2)]) (fun u=>Blk u t (TS.vals ({(rs2 T p1 p2)with cursor:=(Cur.mk (min ((rs2 T p1 p2).cursor.x:Int) ((rs2 T p1 p2).grid.w-1)) (min (((rs2 T p1 p2).cursor.y-(upI T p2)):Int) ((rs2 T p1 p2).grid.h-1)) ((rs2 T p1 p2).cursor.late&&(((rs2 T p1 p2).cursor.x:Int)==(rs2 T p1 p2).grid.w-1)) (rs2 T p1 p2).cursor.sty),saved:=(Cur.mk (min ((rs2 T p1 p2).saved.x:Int) ((rs2 T p1 p2).grid.w-1)) (min ((rs2 T p1 p2).saved.y:Int) ((rs2 T p1 p2).grid.h-1)) ((rs2 T p1 p2).saved.late&&(((rs2 T p1 p2).saved.x:Int)==(rs2 T p1 p2).grid.w-1)) (rs2 T p1 p2).saved.sty),away:=(Cur.mk (rs2 T p1 p2).away.x (rs2 T p1 p2).away.y ((rs2 T p1 p2).away.late&&(((rs2 T p1 p2).away.x:Int)==(rs2 T p1 p2).grid.w-1)) (rs2 T p1 p2).away.sty),top:=0,bot:=(rs2 T p1 p2).grid.h}:TS) j k (.slice n p q) (.slice r s v)) qap/\Ch (· =t) B u/\Blk u d [.pointer (some ⟨t,2,none⟩),.pointer (some ⟨t,10,none⟩),.pointer (some ⟨t,18,none⟩)] 167) (fun dE aO=>?_) (fun u156 cc=>?_)
 ·refine yD [22] fun dF dG V=>?_;have aP:=zt ca V eZ;have cd:=cb.ch V id;have aQ:=aN.ch V id;have M:=c9.ch V id;refine yd (uL 0 6) [] (.l (M.c 20) .z)<|yv [88] (rY (rs2 T p1 p2).away.late) (fun a9=>?_) fun a9=>?_
  ·refine yd (uL 6 16) [] (.l (M.c 18) (.l (M.c 0) (.l (cd.c 0) (.q6 ((rs2 T p1 p2).grid.w-1) .z))))<|yK 22 (yS M fun dH ce aR=>?_);have cf:=zt aP aR (fun i hi (h:i=t)=>h);have cg:=aQ.ch aR (fun(h:d=t)=>by have:=m.lt;omega);refine q8<|yDe (fun a ha=>aO _ ⟨Blk.to (Blk.to (cs':=(TS.vals ({(rs2 T p1 p2)with cursor:=(Cur.mk (min ((rs2 T p1 p2).cursor.x:Int) ((rs2 T p1 p2).grid.w-1)) (min (((rs2 T p1 p2).cursor.y-(upI T p2)):Int) ((rs2 T p1 p2).grid.h-1)) ((rs2 T p1 p2).cursor.late&&(((rs2 T p1 p2).cursor.x:Int)==(rs2 T p1 p2).grid.w-1)) (rs2 T p1 p2).cursor.sty),saved:=(Cur.mk (min ((rs2 T p1 p2).saved.x:Int) ((rs2 T p1 p2).grid.w-1)) (min ((rs2 T p1 p2).saved.y:Int) ((rs2 T p1 p2).grid.h-1)) ((rs2 T p1 p2).saved.late&&(((rs2 T p1 p2).saved.x:Int)==(rs2 T p1 p2).grid.w-1)) (rs2 T p1 p2).saved.sty),away:=(Cur.mk (rs2 T p1 p2).away.x (rs2 T p1 p2).away.y (((rs2 T p1 p2).away.x:Int)==((rs2 T p1 p2).grid.w-1)) (rs2 T p1 p2).away.sty),top:=0,bot:=(rs2 T p1 p2).grid.h}:TS) j k (.slice n p q) (.slice r s v))) ce (by kernel_rfl)) (by simp only[a9,Bool.true_and,Bool.false_and]),cf,cg⟩ a (ha.kp [0,9,77,78,79]))
  refine yd (uL 6 16) [] .z<|yK 22 (yS M fun dI ci aS=>?_);have cj:=zt aP aS (fun i hi (h:i=t)=>h);have ck:=aQ.ch aS (fun(h:d=t)=>by have:=m.lt;omega);refine q8<|yDe (fun a ha=>aO _ ⟨Blk.to (Blk.to (cs':=(TS.vals ({(rs2 T p1 p2)with cursor:=(Cur.mk (min ((rs2 T p1 p2).cursor.x:Int) ((rs2 T p1 p2).grid.w-1)) (min (((rs2 T p1 p2).cursor.y-(upI T p2)):Int) ((rs2 T p1 p2).grid.h-1)) ((rs2 T p1 p2).cursor.late&&(((rs2 T p1 p2).cursor.x:Int)==(rs2 T p1 p2).grid.w-1)) (rs2 T p1 p2).cursor.sty),saved:=(Cur.mk (min ((rs2 T p1 p2).saved.x:Int) ((rs2 T p1 p2).grid.w-1)) (min ((rs2 T p1 p2).saved.y:Int) ((rs2 T p1 p2).grid.h-1)) ((rs2 T p1 p2).saved.late&&(((rs2 T p1 p2).saved.x:Int)==(rs2 T p1 p2).grid.w-1)) (rs2 T p1 p2).saved.sty),away:=(Cur.mk (rs2 T p1 p2).away.x (rs2 T p1 p2).away.y false (rs2 T p1 p2).away.sty),top:=0,bot:=(rs2 T p1 p2).grid.h}:TS) j k (.slice n p q) (.slice r s v))) ci (by kernel_rfl)) (by simp only[a9,Bool.true_and,Bool.false_and]),cj,ck⟩ a (ha.kp [0,9,77,78,79]))
 obtain⟨cl,aT,dJ⟩:=cc;have cm:=G.ch aT (fun h=>A h.symm);refine yD [30,33] fun dK dL aa=>?_;have cn:=zt aT aa eZ;have aU:=cm.ch aa id;have N:=cl.ch aa id;refine yd (uL 0 26) [] (.l (N.c 18) (.l (N.c 0) (.l (aU.c 0) (.q6 ((rs2 T p1 p2).grid.w-1) (.l (N.c 19) (.l (N.c 0) (.l (aU.c 1) .z)))))))<|ydT (uL 26 4) [] rfl (fun _=>(.q6 ((rs2 T p1 p2).grid.h-1) .z))<|yK 30 (yS N fun dM co cp=>?_);have cq:=zt cn cp (fun i hi (h:i=t)=>h);refine q8<|yd [31,32] [] .z<|yK 33 (yS co fun ab cr cs=>?_);have ac:=zt cq cs (fun i hi (h:i=t)=>h);refine q8<|yDe (nB (nS ?_));refine q7<|yp 2 [] (.q6 3 .z)<|yE (nU (yU1 ?_));refine yx 1<|ys<|ycf<|ql (eS (qd (qb (qR ?_))));have ct:=D.scalar (T':=({(rs2 T p1 p2)with cursor:=(Cur.mk (min ((rs2 T p1 p2).cursor.x:Int) ((rs2 T p1 p2).grid.w-1)) (min (((rs2 T p1 p2).cursor.y-(upI T p2)):Int) ((rs2 T p1 p2).grid.h-1)) ((rs2 T p1 p2).cursor.late&&(((rs2 T p1 p2).cursor.x:Int)==(rs2 T p1 p2).grid.w-1)) (rs2 T p1 p2).cursor.sty),saved:=(Cur.mk (min ((rs2 T p1 p2).saved.x:Int) ((rs2 T p1 p2).grid.w-1)) (min ((rs2 T p1 p2).saved.y:Int) ((rs2 T p1 p2).grid.h-1)) ((rs2 T p1 p2).saved.late&&(((rs2 T p1 p2).saved.x:Int)==(rs2 T p1 p2).grid.w-1)) (rs2 T p1 p2).saved.sty),away:=(Cur.mk (min ((rs2 T p1 p2).away.x:Int) ((rs2 T p1 p2).grid.w-1)) (min ((rs2 T p1 p2).away.y:Int) ((rs2 T p1 p2).grid.h-1)) ((rs2 T p1 p2).away.late&&(((rs2 T p1 p2).away.x:Int)==(rs2 T p1 p2).grid.w-1)) (rs2 T p1 p2).away.sty),top:=0,bot:=(rs2 T p1 p2).grid.h}:TS)) ac (Blk.to cr (by kernel_rfl)) rfl rfl rfl rfl
 have dN:=am.size;have dO:=ao.size;have dP:=zzs ac;have aV:Ch F w ab:=zt bh ac (fun i _ h=>h▸aW);exact⟨rfl,TermAt.eq' (show TermAt ab t _ (more F w ab)from⟨_,_,_,_,_,_,_,_,_,_,_,_,ct.mono (fun b hb=>hb.elim (fun h=>h.elim .inl (fun h=> .inr ⟨h.1,by omega⟩)) (fun h=> .inr ⟨by omega,by omega⟩)) (hI.moreOk aV.size)⟩) rfl,aV⟩
structure Stp where
 text:ByteArray
 w:Int
 h:Int
def stp0:Stp:=⟨ByteArray.empty,0,0⟩
def Stp.vals (x:Stp):List Value:=[.string x.text,.int .i64 x.w,.int .i64 x.h]
def flatS:List Stp->List Value
 |[]=>[]
 |x::l=>x.vals++flatS l
def gs (l:List Stp)(k:Nat):Stp:=l.getD k stp0
def doT (T:TS)(x:Stp):TS:=if x.w=0/\x.h=0 then qgt T x.text else qcz T x.w x.h
def doN (T:TS)(l:List Stp):Nat->TS
 |0=>T
 |k+1=>doT (doN T l k) (gs l k)
theorem qkV {T:TS}(h:Fine T)(p1 p2:Int):Fine (qcz T p1 p2):=by
 obtain⟨⟨W,H,h⟩,hp⟩:=h
 exact⟨⟨_,_,qhL h p1 p2⟩,by rw[qeL];exact hp⟩
theorem fine_do {T:TS}(h:Fine T)(x:Stp):Fine (doT T x):=by
 unfold doT
 split
 ·exact qn4 h _
 ·exact qkV h _ _
def qb1 (l:List Cel):Bool:=(List.range l.length).all fun i=>if(gc l (i:Int)).rune=0 then qW l ((i:Int)-1)else qkA (gc l (i:Int))&&(!qaX (gc l (i:Int)).rune||qW l (i:Int))
def celO (c:Cel):Prop:=qB c.sty=true/\(c.rune=0\/qbK c.rune=true)
def okS (l:List Cel):Prop:= ∀c∈l,celO c
def okC (l:List Cel):Prop:=okS l/\qb1 l=true
theorem qd9 {l:List Cel}{i:Nat}(h:i<l.length):gc l (i:Int)=l[i]:=by simp[gc,List.getD,h]
theorem gc_mem {l:List Cel}{i:Nat}(h:i<l.length):gc l (i:Int)∈l:=by rw[qd9 h];exact List.getElem_mem h
theorem wholeB_iff {l:List Cel}:qb1 l=true↔ ∀i:Nat,i<l.length->((gc l (i:Int)).rune=0->qW l ((i:Int)-1)=true)/\((gc l (i:Int)).rune≠0->qkA (gc l (i:Int))=true/\(qaX (gc l (i:Int)).rune=true->qW l (i:Int)=true)):=by
 unfold qb1
 rw[List.all_eq_true]
 refine⟨fun h i hi=>?_,fun h i hi=>?_⟩
 ·have:=h i (List.mem_range.2 hi)
  split at this
  ·rename_i h0;exact⟨fun _=>this,fun h=>absurd h0 h⟩
  ·rename_i h0
   rw[Bool.and_eq_true,Bool.or_eq_true,Bool.not_eq_true']at this
   exact⟨fun h=>absurd h h0,fun _=>⟨this.1,fun hw=>this.2.elim (fun h=>by rw[h]at hw;cases hw) id⟩⟩
 ·have:=h i (List.mem_range.1 hi)
  split
  ·rename_i h0;exact this.1 h0
  ·rename_i h0
   rw[Bool.and_eq_true,Bool.or_eq_true,Bool.not_eq_true']
   refine⟨(this.2 h0).1,?_⟩
   cases hw:qaX (gc l (i:Int)).rune with
   |false=>exact .inl rfl
   |true=>exact .inr ((this.2 h0).2 hw)
theorem qjR (l:List Cel):∀k,k<=l.length-> ∀i:Nat,i<l.length->gc (qbq l k) (i:Int)=if i<k then qdW l (i:Int)else gc l (i:Int)
 |0,_,i,_=>by rw[if_neg (Nat.not_lt_zero i)];rfl
 |k+1,hk,i,hi=>by
  have ih:=qjR l k (by omega) i hi
  have hl:=qb3 l k
  rw[qbq,qd9 (by rw[List.length_set,hl];exact hi),List.getElem_set]
  split
  ·rename_i e;subst e;rw[if_pos (by omega)]
  ·rename_i e
   rw[qd9 (by rw[hl];exact hi)]at ih
   rw[ih]
   by_cases h:i<k
   ·rw[if_pos h,if_pos (by omega)]
   ·rw[if_neg h,if_neg (by omega)]
theorem qiC (l:List Cel){i:Nat}(hi:i<l.length):gc (qeo l) (i:Int)=qdW l (i:Int):=by
 unfold qeo
 rw[qjR l _ (Nat.le_refl _) i hi,if_pos hi]
theorem wide0:qaX 0=false:=by decide+kernel
theorem qoE:qaX 32=false:=by decide+kernel
theorem qgu:qbK 32=true:=by decide+kernel
theorem pairedB_iff {l:List Cel}{i:Int}:qW l i=true↔0<=i/\i+1<(l.length:Nat)/\qaX (gc l i).rune=true/\gc l (i+1)=⟨0,(gc l i).sty⟩:=by
 unfold qW
 simp only[Bool.and_eq_true,decide_eq_true_eq,beq_iff_eq]
 constructor
 ·rintro ⟨⟨⟨a,b⟩,c⟩,d⟩;exact⟨a,b,c,d⟩
 ·rintro ⟨a,b,c,d⟩;exact⟨⟨⟨a,b⟩,c⟩,d⟩
theorem qhM {l:List Cel}{i:Int}(h1:(gc l i).rune=0->qW l (i-1)=true)(h2:qaX (gc l i).rune=true->qW l i=true):qdW l i=gc l i:=by
 unfold qdW
 rw[if_neg]
 intro h
 simp only[Bool.or_eq_true,Bool.and_eq_true,decide_eq_true_eq,Bool.not_eq_true']at h
 rcases h with h|h
 ·rw[h1 h.1]at h;cases h.2
 ·rw[h2 h.1]at h;cases h.2
theorem qgv (l:List Cel)(i:Int):qdW l i=⟨32,(gc l i).sty⟩\/(qdW l i=gc l i/\((gc l i).rune=0->qW l (i-1)=true)/\(qaX (gc l i).rune=true->qW l i=true)):=by
 unfold qdW
 split
 ·exact .inl rfl
 ·rename_i h
  simp only[Bool.or_eq_true,Bool.and_eq_true,decide_eq_true_eq,Bool.not_eq_true',not_or,not_and]at h
  exact .inr ⟨rfl,fun h0=>by simpa using h.1 h0,fun hw=>by simpa using h.2 hw⟩
theorem qgw {l:List Cel}{i:Int}(h:qW l i=true):qW (qeo l) i=true:=by
 obtain⟨h0,h1,h2,h3⟩:=pairedB_iff.1 h
 obtain⟨k,rfl⟩:=Int.eq_ofNat_of_zero_le h0
 have e1:gc (qeo l) ((k:Nat):Int)=gc l (k:Int):=by
  rw[qiC l (by omega)]
  exact qhM (fun h=>by rw[h,wide0]at h2;cases h2) (fun _=>h)
 have e2:gc (qeo l) (((k:Nat):Int)+1)=gc l ((k:Int)+1):=by
  have e3:((k:Nat):Int)+1=((k+1:Nat):Int):=by omega
  rw[e3,qiC l (by omega),<-e3]
  refine qhM (fun _=>?_) (fun hw=>?_)
  ·rw[show((k:Nat):Int)+1-1=(k:Int) by omega];exact h
  ·rw[h3,wide0]at hw;cases hw
 refine pairedB_iff.2 ⟨h0,by rw[qaF];exact h1,by rw[e1];exact h2,by rw[e2,e1];exact h3⟩
theorem qkW {l:List Cel}(h:okS l):okC (qeo l):=by
 have one:∀i:Nat,i<l.length->celO (qdW l (i:Int)):=fun i hi=>by
  have hc:=h _ (gc_mem hi)
  rcases qgv l (i:Int)with e|⟨e,_⟩
  ·rw[e];exact⟨hc.1,.inr qgu⟩
  ·rw[e];exact hc
 refine⟨fun c hc=>?_,wholeB_iff.2 fun i hi=>?_⟩
 ·obtain⟨i,hi,rfl⟩:=List.mem_iff_getElem.1 hc
  rw[qaF]at hi
  have:=one i hi
  rwa[<-qiC l hi,qd9 (by rw[qaF];exact hi)]at this
 ·rw[qaF]at hi
  rw[qiC l hi]
  have hc:=one i hi
  rcases qgv l (i:Int)with e|⟨e,h1,h2⟩
  ·rw[e]
   refine⟨fun h=>(by cases h),fun _=>⟨?_,fun hw=>by rw[qoE]at hw;cases hw⟩⟩
   rw[e]at hc
   unfold qkA
   rw[hc.1,Bool.and_true]
   exact qgu
  ·rw[e]at hc⊢
   refine⟨fun h=>qgw (h1 h),fun h=>⟨?_,fun hw=>qgw (h2 hw)⟩⟩
   unfold qkA
   rw[hc.1,hc.2.resolve_left h];rfl
theorem qkX {l m:List Cel}(h:okS l)(hm:∀c∈m,c∈l):okS m:=fun c hc=>h c (hm c hc)
theorem qiD {l:List Cel}(h:okS l){i:Nat}{c:Cel}(hc:celO c):okS (l.set i c):=fun d hd=>by
 rcases List.mem_or_eq_of_mem_set hd with hd|rfl
 ·exact h d hd
 ·exact hc
theorem qcL {s:Sty}(h:qB s=true):celO (qA s):=by
 refine⟨?_,.inr qgu⟩
 unfold qB at*
 simp only[Bool.and_eq_true,decide_eq_true_eq]at*
 exact⟨⟨⟨Int.le_refl _,(by show(0:Int)<=8;decide)⟩,h.1.2⟩,h.2⟩
theorem qdm:qB qd7=true:=by decide
theorem qdn (n:Nat){s:Sty}(h:qB s=true):okC (List.replicate n (qA s)):=by
 refine⟨fun c hc=>by rw[List.eq_of_mem_replicate hc];exact qcL h,wholeB_iff.2 fun i hi=>?_⟩
 rw[List.length_replicate]at hi
 have e:gc (List.replicate n (qA s)) (i:Int)=qA s:=by rw[qd9 (by rw[List.length_replicate];exact hi)];simp
 rw[e]
 refine⟨fun h=>(by cases h),fun _=>⟨?_,fun hw=>?_⟩⟩
 ·unfold qkA;rw[(qcL h).1,Bool.and_true];exact qgu
 ·have hw:qaX 32=true:=hw
  rw[qoE]at hw;cases hw
theorem putL_ok {W:Int}{l:List Cel}{x:Int}{c:Cel}(h:okS l)(hc:qkA c=true):okS (putL W l x c):=by
 unfold qkA at hc
 rw[Bool.and_eq_true]at hc
 unfold putL
 split
 ·exact qiD (qiD h ⟨hc.2,.inr hc.1⟩) ⟨hc.2,.inl rfl⟩
 ·exact qiD h ⟨hc.2,.inr hc.1⟩
theorem qlO {l:List Cel}{a:Int}{c:Cel}(h:okS l)(hc:celO c):∀k,okS (qfL l a c k)
 |0=>h
 |k+1=>qiD (qlO h hc k) hc
theorem openL_ok {l:List Cel}{x n:Int}(h:okS l):okS (qhd l x n):=qkX h fun c hc=>by
 unfold qhd at hc
 rcases List.mem_append.1 hc with hc|hc
 ·rcases List.mem_append.1 hc with hc|hc
  ·exact List.mem_of_mem_take hc
  ·exact List.mem_of_mem_drop (List.mem_of_mem_take hc)
 ·exact List.mem_of_mem_drop hc
theorem shutL_ok {l:List Cel}{x n:Int}(h:okS l):okS (qhe l x n):=qkX h fun c hc=>by
 unfold qhe at hc
 rcases List.mem_append.1 hc with hc|hc
 ·rcases List.mem_append.1 hc with hc|hc
  ·exact List.mem_of_mem_take hc
  ·exact List.mem_of_mem_drop (List.mem_of_mem_take hc)
 ·exact List.mem_of_mem_drop hc
theorem qlP {l m:List Cel}{i:Nat}(h:i<l.length):gc (l++m) (i:Int)=gc l (i:Int):=by
 rw[qd9 (by rw[List.length_append];omega),qd9 h,List.getElem_append_left h]
theorem qhN {l m:List Cel}{i:Int}(h:qW l i=true):qW (l++m) i=true:=by
 obtain⟨h0,h1,h2,h3⟩:=pairedB_iff.1 h
 obtain⟨k,rfl⟩:=Int.eq_ofNat_of_zero_le h0
 have e:((k:Nat):Int)+1=((k+1:Nat):Int):=by omega
 refine pairedB_iff.2 ⟨h0,by rw[List.length_append];omega,by rw[qlP (by omega)];exact h2,?_⟩
 rw[e,qlP (by omega),qlP (by omega),<-e];exact h3
theorem okC_app {l:List Cel}(h:okC l)(n:Nat):okC (l++List.replicate n (qA qd7)):=by
 refine⟨fun c hc=>(List.mem_append.1 hc).elim (h.1 c) fun hc=>by rw[List.eq_of_mem_replicate hc];exact qcL qdm,wholeB_iff.2 fun i hi=>?_⟩
 by_cases hl:i<l.length
 ·have:=wholeB_iff.1 h.2 i hl
  rw[qlP hl]
  exact⟨fun h0=>qhN (this.1 h0),fun h0=>⟨(this.2 h0).1,fun hw=>qhN ((this.2 h0).2 hw)⟩⟩
 ·have e:gc (l++List.replicate n (qA qd7)) (i:Int)=qA qd7:=by
   rw[qd9 hi,List.getElem_append_right (by omega)];simp
  rw[e]
  refine⟨fun h=>(by cases h),fun _=>⟨?_,fun hw=>?_⟩⟩
  ·unfold qkA;rw[(qcL qdm).1,Bool.and_true];exact qgu
  ·have hw:qaX 32=true:=hw
   rw[qoE]at hw;cases hw
theorem fitL_ok {l:List Cel}(h:okC l)(w:Int):okC (qlz l w):=by
 unfold qlz
 split
 ·exact qkW (qkX h.1 fun c hc=>List.mem_of_mem_take hc)
 ·exact okC_app h _
def okG (G:Gr):Prop:= ∀l∈G.lines,okC l
theorem qg4 {G:Gr}(h:okG G)(y:Int):okS (gl G y):=by
 unfold gl
 rw[List.getD_eq_getElem?_getD]
 cases e:G.lines[y.toNat]? with
 |none=>intro c hc;cases hc
 |some l=>exact(h l (List.mem_of_getElem? e)).1
theorem qoF {G:Gr}(h:okG G)(y:Int){l:List Cel}(hl:okC l):okG (qf8 G y l):=fun m hm=>by
 rcases List.mem_or_eq_of_mem_set hm with hm|rfl
 ·exact h m hm
 ·exact hl
theorem okG_put {G:Gr}(h:okG G)(x y:Int)(c:Cel):okG (qjl G x y c):=by
 unfold qjl
 split
 ·rename_i hc;exact qoF h y (qkW (putL_ok (qg4 h y) hc.2))
 ·exact h
theorem qjS {W:Int}{l:List Cel}{a b:Int}{s:Sty}(h:okS l)(hs:qB s=true):okC (qgg W l a b s):=qkW (qlO h (qcL hs) _)
theorem qoG {G:Gr}(h:okG G)(y a b:Int){s:Sty}(hs:qB s=true):okG (qaZ G y a b s):=by
 unfold qaZ
 split
 ·exact qoF h y (qjS (qg4 h y) hs)
 ·exact h
theorem okG_set2 {G:Gr}(h:okG G){x y:Int}(ht:qbw G x y=true){l:List Cel}(hl:okS l)(a b:Int){s:Sty}(hs:qB s=true):okG (qaZ (qf8 G y l) y a b s):=by
 obtain⟨⟨h1,h2⟩,h3,h4⟩:=there_iff.1 ht
 unfold qaZ
 have ht':qbw (qf8 G y l) 0 y=true:=there_iff.2 ⟨⟨Int.le_refl _,h2⟩,(by show(0:Int)<G.w;omega),h4⟩
 rw[if_pos ht']
 intro m hm
 have hm:m∈(G.lines.set y.toNat l).set y.toNat (qgg G.w (gl (qf8 G y l) y) a b s):=hm
 rw[List.set_set]at hm
 rcases List.mem_or_eq_of_mem_set hm with hm|rfl
 ·exact h m hm
 ·refine qjS ?_ hs
  unfold gl qf8
  rw[List.getD_eq_getElem?_getD]
  cases e:(G.lines.set y.toNat l)[y.toNat]? with
  |none=>intro c hc;cases hc
  |some q=>
   rw[List.getElem?_set]at e
   simp only[if_true]at e
   split at e
   ·obtain rfl:=Option.some.inj e;exact hl
   ·cases e
theorem up1_mem {L:List (List Cel)}{t e:Nat}{b l:List Cel}(h:l∈up1 L t e b):l=b\/l∈L:=by
 unfold up1 at h
 simp only[List.mem_append,List.mem_singleton]at h
 rcases h with((h|h)|h)|h
 ·exact .inr (List.mem_of_mem_take h)
 ·exact .inr (List.mem_of_mem_drop (List.mem_of_mem_take h))
 ·exact .inl h
 ·exact .inr (List.mem_of_mem_drop h)
theorem qoH {L:List (List Cel)}{t e:Nat}{b l:List Cel}(h:l∈qfM L t e b):l=b\/l∈L:=by
 unfold qfM at h
 simp only[List.mem_append,List.mem_singleton]at h
 rcases h with((h|h)|h)|h
 ·exact .inr (List.mem_of_mem_take h)
 ·exact .inl h
 ·exact .inr (List.mem_of_mem_drop (List.mem_of_mem_take h))
 ·exact .inr (List.mem_of_mem_drop h)
theorem qiE {t e:Nat}{b l:List Cel}{L:List (List Cel)}:∀k,l∈upN t e b k L->l=b\/l∈L
 |0,h=> .inr h
 |k+1,h=>(up1_mem h).elim .inl (qiE k)
theorem qgx {t e:Nat}{b l:List Cel}{L:List (List Cel)}:∀k,l∈qmD t e b k L->l=b\/l∈L
 |0,h=> .inr h
 |k+1,h=>(qoH h).elim .inl (qgx k)
theorem okG_up {G:Gr}(h:okG G)(p1 p2 n:Int){s:Sty}(hs:qB s=true):okG (upG G p1 p2 n s):=fun l hl=>(qiE _ hl).elim (fun e=>e▸qdn _ hs) (h l)
theorem okG_down {G:Gr}(h:okG G)(p1 p2 n:Int){s:Sty}(hs:qB s=true):okG (qew G p1 p2 n s):=fun l hl=>(qgx _ hl).elim (fun e=>e▸qdn _ hs) (h l)
theorem okG_new (w h:Int):okG (qkB w h):=fun l hl=>by rw[List.eq_of_mem_replicate hl];exact qdn _ qdm
theorem qn5 {G:Gr}(h:okG G)(p1 p2 p3:Int):okG (qdX G p1 p2 p3):=fun l hl=>by
 rcases List.mem_append.1 hl with hl|hl
 ·unfold qd8 at hl
  obtain⟨m,hm,rfl⟩:=List.mem_map.1 hl
  exact fitL_ok (h m (List.mem_of_mem_drop (List.mem_of_mem_take hm))) _
 ·rw[List.eq_of_mem_replicate hl];exact qdn _ qdm
theorem qjT {l m:List (List Cel)}{P:List Cel->Prop}(h1:∀x∈l,P x)(h2:∀x∈m,P x):∀x∈qhh l m,P x:=fun x hx=>by
 have:=List.mem_of_mem_drop hx
 rcases List.mem_append.1 this with h|h
 ·exact h1 x h
 ·exact h2 x h
structure okD (G:Gr):Prop where
 ok:okG G
 len:G.lines.length=G.h.toNat
 wid:∀l∈G.lines,l.length=G.w.toNat
theorem okD.line {G:Gr}(h:okD G){y:Int}(hy:0<=y/\y<G.h):(gl G y).length=G.w.toNat:=by
 have hl:=h.len
 have hy':y.toNat<G.lines.length:=by omega
 unfold gl
 rw[List.getD_eq_getElem?_getD,List.getElem?_eq_getElem hy']
 exact h.wid _ (List.getElem_mem hy')
theorem okD.set {G:Gr}(h:okD G)(y:Int){l:List Cel}(ho:okG (qf8 G y l))(hl:l.length=G.w.toNat):okD (qf8 G y l):=
 ⟨ho,by show(G.lines.set y.toNat l).length=_;rw[List.length_set];exact h.len,fun m hm=>by
  rcases List.mem_or_eq_of_mem_set hm with hm|rfl
  ·exact h.wid m hm
  ·exact hl⟩
theorem okD_put {G:Gr}(h:okD G)(x y:Int)(c:Cel):okD (qjl G x y c):=by
 have ho:=okG_put h.ok x y c
 unfold qjl at ho⊢
 split
 ·rename_i hc
  rw[if_pos hc]at ho
  obtain⟨⟨_,h2⟩,_,h4⟩:=there_iff.1 hc.1
  refine h.set y ho ?_
  rw[qaF]
  unfold putL
  split<;>simp only[List.length_set]<;>exact h.line ⟨h2,h4⟩
 ·exact h
theorem qgy {G:Gr}(h:okD G)(y a b:Int){s:Sty}(hs:qB s=true):okD (qaZ G y a b s):=by
 have ho:=qoG h.ok y a b hs
 unfold qaZ at ho⊢
 split
 ·rename_i hc
  rw[if_pos hc]at ho
  obtain⟨⟨_,h2⟩,_,h4⟩:=there_iff.1 hc
  refine h.set y ho ?_
  unfold qgg
  rw[qaF,qay]
  exact h.line ⟨h2,h4⟩
 ·exact h
theorem qlQ {G:Gr}(h:okD G){x y:Int}(ht:qbw G x y=true){l:List Cel}(hl:okS l)(hn:l.length=G.w.toNat)(a b:Int){s:Sty}(hs:qB s=true):okD (qaZ (qf8 G y l) y a b s):=by
 have ho:=okG_set2 h.ok ht hl a b hs
 obtain⟨⟨h1,h2⟩,h3,h4⟩:=there_iff.1 ht
 have hw:=qbH (qf8 G y l) y a b s
 refine⟨ho,?_,fun m hm=>?_⟩
 ·rw[hw.2]
  unfold qaZ
  split
  ·show((G.lines.set y.toNat l).set y.toNat _).length=_
   rw[List.length_set,List.length_set];exact h.len
  ·show(G.lines.set y.toNat l).length=_
   rw[List.length_set];exact h.len
 ·rw[hw.1]
  have hy':y.toNat<G.lines.length:=by have:=h.len;omega
  have hg:(gl (qf8 G y l) y).length=G.w.toNat:=by
   unfold gl qf8
   rw[List.getD_eq_getElem?_getD,List.getElem?_set_self hy']
   exact hn
  unfold qaZ at hm
  split at hm
  ·have hm:m∈(G.lines.set y.toNat l).set y.toNat (qgg G.w (gl (qf8 G y l) y) a b s):=hm
   rw[List.set_set]at hm
   rcases List.mem_or_eq_of_mem_set hm with hm|rfl
   ·exact h.wid m hm
   ·unfold qgg;rw[qaF,qay];exact hg
  ·rcases List.mem_or_eq_of_mem_set hm with hm|rfl
   ·exact h.wid m hm
   ·exact hn
theorem qlR {G:Gr}(h:okD G)(x y n:Int){s:Sty}(hs:qB s=true):okD (qhf G x y n s):=by
 unfold qhf
 split
 ·rename_i ht
  obtain⟨⟨h1,h2⟩,h3,h4⟩:=there_iff.1 ht
  have hl:=h.line ⟨h2,h4⟩
  refine qlQ h ht (openL_ok (qg4 h.ok y)) ?_ _ _ hs
  unfold qhd
  simp only[List.length_append,List.length_take,List.length_drop,hl]
  omega
 ·exact h
theorem okD_shut {G:Gr}(h:okD G)(x y n:Int){s:Sty}(hs:qB s=true):okD (qif G x y n s):=by
 unfold qif
 split
 ·rename_i ht
  obtain⟨⟨h1,h2⟩,h3,h4⟩:=there_iff.1 ht
  have hl:=h.line ⟨h2,h4⟩
  refine qlQ h ht (shutL_ok (qg4 h.ok y)) ?_ _ _ hs
  unfold qhe
  simp only[List.length_append,List.length_take,List.length_drop,hl]
  omega
 ·exact h
theorem qkY {t e:Nat}{b:List Cel}{L:List (List Cel)}:∀k,k=0\/(t<e/\e<=L.length)->(upN t e b k L).length=L.length
 |0,_=>rfl
 |k+1,h=>by
  obtain⟨h1,h2⟩:=h.resolve_left (by omega)
  have ih:=qkY (b:=b) k (.inr ⟨h1,h2⟩)
  rw[upN,qo4 h1 (by omega),ih]
theorem qjU {t e:Nat}{b:List Cel}{L:List (List Cel)}:∀k,k=0\/(t<e/\e<=L.length)->(qmD t e b k L).length=L.length
 |0,_=>rfl
 |k+1,h=>by
  obtain⟨h1,h2⟩:=h.resolve_left (by omega)
  have ih:=qjU (b:=b) k (.inr ⟨h1,h2⟩)
  rw[qmD,qjq h1 (by omega),ih]
theorem qoI {G:Gr}(h:okD G)(p1 p2 n:Int):(cntI G p1 p2 n).toNat=0\/((qfX G p1).toNat<(qfX G p2).toNat/\(qfX G p2).toNat<=G.lines.length):=by
 rw[h.len]
 unfold cntI qfX
 omega
theorem qoJ {G:Gr}(h:okD G)(p1 p2 n:Int){s:Sty}(hs:qB s=true):okD (upG G p1 p2 n s):=
 ⟨okG_up h.ok p1 p2 n hs,(qkY _ (qoI h p1 p2 n)).trans h.len,fun l hl=>(qiE _ hl).elim (fun e=>by rw[e,List.length_replicate];rfl) (h.wid l)⟩
theorem qlS {G:Gr}(h:okD G)(p1 p2 n:Int){s:Sty}(hs:qB s=true):okD (qew G p1 p2 n s):=
 ⟨okG_down h.ok p1 p2 n hs,(qjU _ (qoI h p1 p2 n)).trans h.len,fun l hl=>(qgx _ hl).elim (fun e=>by rw[e,List.length_replicate];rfl) (h.wid l)⟩
theorem qjV {t e:Nat}{b l:List Cel}{L:List (List Cel)}:∀k,(k=0\/(t<e/\e<=L.length))->l∈qjs t e b k L->l=b\/l∈L
 |0,_,h=>by cases h
 |k+1,hk,h=>by
  obtain⟨h1,h2⟩:=hk.resolve_left (by omega)
  rw[qjs]at h
  rcases List.mem_append.1 h with h|h
  ·exact qjV k (.inr ⟨h1,h2⟩) h
  ·have hlen:=qkY (b:=b) k (.inr ⟨h1,h2⟩)
   rw[List.mem_singleton.1 h,List.getD_eq_getElem?_getD,List.getElem?_eq_getElem (by omega)]
   exact qiE k (List.getElem_mem _)
def okB (l:List Cel):Prop:=okC l/\l≠[]/\l.length<=60
theorem okB_of {G:Gr}(h:okD G)(hw:1<=G.w/\G.w<=60){l:List Cel}(hl:l∈G.lines):okB l:=⟨h.ok l hl,fun e=>by have:=h.wid l hl;rw[e]at this;simp at this;omega,by have:=h.wid l hl;omega⟩
theorem okD_out {G:Gr}(h:okD G)(hw:1<=G.w/\G.w<=60)(p1 p2 n:Int){s:Sty}(hs:qB s=true):∀l∈outG G p1 p2 n s,okB l:=fun l hl=>by
 rcases qjV _ (qoI h p1 p2 n) hl with rfl|hl
 ·exact⟨qdn _ hs,fun e=>by have:=congrArg List.length e;rw[List.length_replicate]at this;simp at this;omega,by rw[List.length_replicate];omega⟩
 ·exact okB_of h hw hl
theorem qoK (w h:Int):okD (qkB w h):=⟨okG_new w h,by show(List.replicate _ _).length=_;rw[List.length_replicate];rfl,fun l hl=>by rw[List.eq_of_mem_replicate hl,List.length_replicate];rfl⟩
theorem qfk {G:Gr}(h:okD G)(hh:0<=G.h)(p1 p2 p3:Int):okD (qdX G p1 p2 p3):=by
 refine⟨qn5 h.ok p1 p2 p3,?_,fun l hl=>?_⟩
 ·show(qd8 _ _ _ _++List.replicate _ _).length=(qi p2).toNat
  unfold qd8
  simp only[List.length_append,List.length_map,List.length_take,List.length_drop,List.length_replicate,h.len]
  omega
 ·show l.length=(qi p1).toNat
  have h1:1<=qi p1:=by unfold qi;omega
  rcases List.mem_append.1 hl with hl|hl
  ·unfold qd8 at hl
   obtain⟨m,_,rfl⟩:=List.mem_map.1 hl
   rw[qij (by omega)];omega
  ·rw[List.eq_of_mem_replicate hl,List.length_replicate]
theorem qhO {G:Gr}(h:okD G):∀k,okD (qdZ G k)
 |0=>h
 |k+1=>qgy (qhO h k) _ _ _ qdm
structure Okt (q:Bool)(W H:Int)(T:TS):Prop where
 lim:Lim W H T
 g:okD T.grid
 o:okD T.other
 b:∀l∈T.back,okB l
 cs:qB T.cursor.sty=true
 cl:q=true->T.cursor.late=true->T.cursor.x=W-1
 ss:qB T.saved.sty=true
 sl:T.saved.late=true->T.saved.x=W-1
 ay:qB T.away.sty=true
 al:T.away.late=true->T.away.x=W-1
 ti:T.title.size<=40
section
variable {q:Bool}{W H:Int}{T:TS}
theorem Okt.half (h:Okt q W H T):Okt false W H T:={h with cl:=fun e=>by cases e}
theorem Okt.cur (h:Okt q W H T){p:Bool}{c:Cur}(hc:(0<=c.x/\c.x<W)/\0<=c.y/\c.y<H)(hs:qB c.sty=true)(hl:p=true->c.late=true->c.x=W-1):Okt p W H {T with cursor:=c}:={h with lim:=h.lim.cursor hc,cs:=hs,cl:=hl}
theorem Okt.grid (h:Okt q W H T){G:Gr}(hG:G.w=T.grid.w/\G.h=T.grid.h)(hd:okD G):Okt q W H {T with grid:=G}:={h with lim:=h.lim.grid hG,g:=hd}
theorem Okt.flags (h:Okt q W H T){T':TS}(hl:Lim W H T')(e1:T'.grid=T.grid)(e2:T'.other=T.other)(e3:T'.cursor=T.cursor)(e4:T'.saved=T.saved)(e5:T'.away=T.away)(e8:T'.back=T.back)(e9:T'.title=T.title):Okt q W H T':=
 ⟨hl,by rw[e1];exact h.g,by rw[e2];exact h.o,by rw[e8];exact h.b,by rw[e3];exact h.cs,by rw[e3];exact h.cl,by rw[e4];exact h.ss,by rw[e4];exact h.sl,by rw[e5];exact h.ay,by rw[e5];exact h.al,by rw[e9];exact h.ti⟩
theorem qdo (h:Okt q W H T){p:Bool}(x y:Int):Okt p W H (qdS T x y):=
 {h with lim:=qc5 h.lim x y,cs:=h.cs,cl:=fun _ e=>by cases e}
theorem qiF (h:Okt q W H T){p:Bool}(x y:Int):Okt p W H (qey T x y):=by
 unfold qey
 split<;>exact qdo h _ _
theorem qjW (h:Okt q W H T)(n:Int):Okt q W H (qbs T n):=by
 have hl:=qfd h.lim n
 have h1:=h.lim.g1
 have h2:=h.lim.wb
 unfold qbs at hl⊢
 split
 ·rename_i hc
  rw[if_pos hc]at hl
  exact{h with lim:=hl,g:=qoJ h.g _ _ _ h.cs,b:=qjT h.b (okD_out h.g ⟨by omega,by omega⟩ _ _ _ h.cs)}
 ·exact h.grid ⟨rfl,rfl⟩ (qoJ h.g _ _ _ h.cs)
theorem qgz (h:Okt q W H T):Okt q W H (qbo T):=by
 have h1:=h.lim.g1
 have h2:=h.lim.cu
 unfold qbo
 split
 ·exact qjW h 1
 ·split
  ·exact h.cur ⟨h2.1,by dsimp only;omega,by dsimp only;omega⟩ h.cs h.cl
  ·exact h
theorem ok_up (h:Okt q W H T):Okt q W H (upT T):=by
 have h2:=h.lim.cu
 unfold upT
 split
 ·exact h.grid (G:=qew T.grid T.top T.bot 1 T.cursor.sty) ⟨rfl,rfl⟩ (qlS h.g _ _ _ h.cs)
 ·split
  ·exact h.cur ⟨h2.1,by dsimp only;omega,by dsimp only;omega⟩ h.cs h.cl
  ·exact h
theorem qkZ (h:Okt q W H T):Okt true W H (qbc T false):=h.cur h.lim.cu h.cs (fun _ e=>by cases e)
theorem ok_print (h:Okt q W H T)(r:Int):Okt true W H (qez T r):=by
 have h1:=h.lim.g1
 have h3:=h.lim.wb
 have hn:=qfe T r (by omega)
 have hA:Okt false W H (qbM T):=by
  have h2:=h.lim.cu
  unfold qbM
  split
  ·exact qgz (h.cur ⟨⟨by dsimp only;omega,by dsimp only;omega⟩,h2.2⟩ h.cs (fun e=>by cases e))
  ·exact h.half
 have hB:Okt false W H (qbx (qbM T) (qa0 T r).2):=by
  have h1:=hA.lim.g1
  have h2:=hA.lim.cu
  unfold qbx
  split
  ·split
   ·exact qgz (hA.cur ⟨⟨by dsimp only;omega,by dsimp only;omega⟩,h2.2⟩ hA.cs (fun e=>by cases e))
   ·exact hA.cur ⟨⟨by dsimp only;omega,by dsimp only;omega⟩,h2.2⟩ hA.cs (fun e=>by cases e)
  ·exact hA
 have hC:Okt false W H (qc1 (qbx (qbM T) (qa0 T r).2) (qa0 T r).2):=by
  unfold qc1
  split
  ·exact hB.grid (qim _ _ _ _ _) (qlR hB.g _ _ _ hB.cs)
  ·exact hB
 have hD:Okt false W H (qfB (qc1 (qbx (qbM T) (qa0 T r).2) (qa0 T r).2) (qa0 T r).1):=hC.grid (putG_w _ _ _ _) (okD_put hC.g _ _ _)
 have hlim:=qjA h.lim r
 unfold qez at hlim⊢
 generalize (qfB (qc1 (qbx (qbM T) (qa0 T r).2) (qa0 T r).2) (qa0 T r).1)=U at hD hlim
 have hg:=hD.lim.g1
 unfold qgi at hlim⊢
 split
 ·rename_i hc
  rw[if_pos hc]at hlim
  exact{hD with lim:=hlim,cs:=hD.cs,cl:=fun _ _=>by show U.grid.w-1=W-1;omega}
 ·rename_i hc
  rw[if_neg hc]at hlim
  exact{hD with lim:=hlim,cs:=hD.cs,cl:=fun _ e=>by cases e}
theorem ok_exec (h:Okt true W H T)(c:Int):Okt true W H (qdh T c):=by
 have hl:=qlE h.lim c
 unfold qdh at hl⊢
 repeat' split
 all_goals first|exact qdo h _ _|exact qkZ (qgz h)|exact{h with lim:=h.lim.flags rfl rfl rfl rfl rfl rfl rfl rfl rfl}|exact h
theorem ok_tell (h:Okt true W H T)(c k:Int):Okt true W H (qcJ T c k):=by
 refine h.flags (qlI h.lim c k) ?_ ?_ ?_ ?_ ?_ ?_ ?_
 all_goals
  unfold qcJ qdV
  repeat' split
  all_goals rfl
theorem ok_clear (h:Okt true W H T)(y a b:Int){s:Sty}(hs:qB s=true):Okt true W H (qcK T y a b s):=h.grid (qbH _ _ _ _ _) (qgy h.g _ _ _ hs)
theorem qoL (h:Okt true W H T)(k x y:Int){s:Sty}(hs:qB s=true)(i:Int):Okt true W H (qb9 T k x y s i):=by
 unfold qb9
 repeat' split
 all_goals first|exact ok_clear h _ _ _ hs|exact h
theorem qoM (h:Okt true W H T)(k x y:Int){s:Sty}(hs:qB s=true)(a:Int)(j:Nat):Okt true W H (qeF T k x y s a j):=by
 induction j with
 |zero=>exact h
 |succ j ih=>exact qoL ih _ _ _ hs _
theorem qiG (h:Okt true W H T)(k a b:Int):Okt true W H (qgo T k a b):=qoM h _ _ _ h.cs _ _
theorem qai {c:Prop}[Decidable c]{a b:TS}(h1:c->Okt true W H a)(h2:¬c->Okt true W H b):Okt true W H (if c then a else b):=by
 split
 ·exact h1 ‹_›
 ·exact h2 ‹_›
theorem ok_edit (h:Okt true W H T)(c n:Int)(l:List Int):Okt true W H (qbi T c n l):=by
 have hd:∀a b n,Okt true W H {T with grid:=qew T.grid a b n T.cursor.sty}:=fun a b n=>h.grid (G:=qew T.grid a b n T.cursor.sty) ⟨rfl,rfl⟩ (qlS h.g _ _ _ h.cs)
 have hu:∀a b n,Okt true W H {T with grid:=upG T.grid a b n T.cursor.sty}:=fun a b n=>h.grid (G:=upG T.grid a b n T.cursor.sty) ⟨rfl,rfl⟩ (qoJ h.g _ _ _ h.cs)
 unfold qbi
 refine qai (fun _=>h.grid (qim _ _ _ _ _) (qlR h.g _ _ _ h.cs)) fun _=>?_
 refine qai (fun _=>h.grid (qoe _ _ _ _ _) (okD_shut h.g _ _ _ h.cs)) fun _=>?_
 refine qai (fun _=>h.grid (qbH _ _ _ _ _) (qgy h.g _ _ _ h.cs)) fun _=>?_
 refine qai (fun _=>qiG h _ _ _) fun _=>?_
 refine qai (fun _=>qai (fun _=>qiG (T:={T with back:=[]}) {h with lim:={h.lim with bk:=by simp},b:=fun l hl=>by cases hl} _ _ _) fun _=>qiG h _ _ _) fun _=>?_
 refine qai (fun _=>qai (fun _=>hd _ _ _) fun _=>h) fun _=>?_
 refine qai (fun _=>qai (fun _=>hu _ _ _) fun _=>h) fun _=>?_
 refine qai (fun _=>qjW h _) fun _=>?_
 refine qai (fun _=>hd _ _ _) fun _=>?_
 exact ok_tell h _ _
theorem qn6 {s:Sty}(h:qB s=true)(n:Int):qB (qm s n)=true:=by
 unfold qB at*
 simp only[Bool.and_eq_true,decide_eq_true_eq]at*
 unfold qm
 repeat' split
 all_goals first|exact h|(show(((_:Prop)/\_)/\_)/\_;dsimp only[qd7];omega)
theorem ql0 {s:Sty}(h:qB s=true)(l:List Int):qB (qcn s l)=true:=by
 unfold qcn
 generalize (if l=[]then[0]else l)=m
 induction m generalizing s with
 |nil=>exact h
 |cons n m ih=>exact ih (qn6 h n)
theorem ok_plain (h:Okt true W H T)(c:Int)(l:List Int):Okt true W H (qau T c l):=by
 have h1:=h.lim.g1
 have hp:=qdG l 0
 unfold qau
 refine qai (fun _=>qdo h _ _) fun _=>?_
 refine qai (fun _=>qdo h _ _) fun _=>?_
 refine qai (fun _=>qdo h _ _) fun _=>?_
 refine qai (fun _=>qdo h _ _) fun _=>?_
 refine qai (fun _=>qdo h _ _) fun _=>?_
 refine qai (fun _=>qiF h _ _) fun _=>?_
 refine qai (fun _=>qiF h _ _) fun _=>?_
 refine qai (fun _=>h.cur h.lim.cu (ql0 h.cs l) h.cl) fun _=>?_
 refine qai (fun _=>qai (fun h5=>qiF (q:=true) (h.flags (qhF h.lim ⟨hp,h5,?_⟩) rfl rfl rfl rfl rfl rfl rfl) _ _) fun _=>h) fun _=>ok_edit h _ _ _
 split<;>omega
theorem ok_turn (h:Okt true W H T)(b:Bool):Okt true W H (qkS T b):=by
 have hl:=qlJ h.lim b
 unfold qkS at hl⊢
 split
 ·exact h
 ·rename_i hc
  rw[if_neg hc]at hl
  split
  ·rename_i hb
   rw[if_pos hb]at hl
   exact⟨hl,qhO h.o _,h.g,h.b,h.cs,h.cl,h.ss,h.sl,h.cs,h.cl rfl,h.ti⟩
  ·rename_i hb
   rw[if_neg hb]at hl
   exact⟨hl,h.o,h.g,h.b,h.ay,fun _=>h.al,h.ss,h.sl,h.cs,h.cl rfl,h.ti⟩
theorem ok_mode (h:Okt true W H T)(n:Int)(b:Bool):Okt true W H (qbj T n b):=by
 unfold qbj
 split
 ·exact qiF (q:=true) (T:={T with origin:=b}) (h.flags (h.lim.flags rfl rfl rfl rfl rfl rfl rfl rfl rfl) rfl rfl rfl rfl rfl rfl rfl) _ _
 split
 ·exact{h with lim:={h.lim.cursor (c:=⟨T.cursor.x,T.cursor.y,T.cursor.late&&b,T.cursor.sty⟩) h.lim.cu with},cs:=h.cs,cl:=fun e e2=>h.cl e (by have e2:(T.cursor.late&&b)=true:=e2;rw[Bool.and_eq_true]at e2;exact e2.1)}
 split
 ·exact h.flags (h.lim.flags rfl rfl rfl rfl rfl rfl rfl rfl rfl) rfl rfl rfl rfl rfl rfl rfl
 split
 ·exact ok_turn h b
 ·exact h
theorem ok_modes (h:Okt true W H T)(l:List Int)(b:Bool):Okt true W H (l.foldl (fun T n=>qbj T n b) T):=by
 induction l generalizing T with
 |nil=>exact h
 |cons n l ih=>exact ih (ok_mode h n b)
theorem ok_csi (h:Okt true W H T)(a:Ac):Okt true W H (qlG T a):=by
 unfold qlG
 split
 ·exact ok_plain h _ _
 split
 ·exact ok_modes h _ _
 ·exact h
theorem qlT (T:TS)(w h:Int)(hr:T.reply.size<=400):Okt true (qi w) (qi h) (startT T w h):=
 ⟨qeG T w h hr,qoK w h,qoK w h,fun l hl=>(by cases hl),qdm,fun _ e=>(by cases e),qdm,fun e=>(by cases e),qdm,fun e=>(by cases e),Nat.zero_le _⟩
theorem ok_esc (h:Okt true W H T)(a:Ac):Okt true W H (qh9 T a):=by
 have hf:∀{T':TS},Lim W H T'->T'.grid=T.grid->T'.other=T.other->T'.cursor=T.cursor->T'.saved=T.saved->T'.away=T.away->T'.back=T.back->T'.title=T.title->Okt true W H T':=fun hl=>h.flags hl
 unfold qh9
 refine qai (fun _=>qai (fun _=>hf (h.lim.flags rfl rfl rfl rfl rfl rfl rfl rfl rfl) rfl rfl rfl rfl rfl rfl rfl) fun _=>h) fun _=>?_
 refine qai (fun _=>qai (fun _=>hf (h.lim.flags rfl rfl rfl rfl rfl rfl rfl rfl rfl) rfl rfl rfl rfl rfl rfl rfl) fun _=>h) fun _=>?_
 refine qai (fun _=>h) fun _=>?_
 refine qai (fun _=>{h with lim:={h.lim with sa:=h.lim.cu},ss:=h.cs,sl:=h.cl rfl}) fun _=>?_
 refine qai (fun _=>{h with lim:={h.lim with cu:=h.lim.sa},cs:=h.ss,cl:=fun _=>h.sl}) fun _=>?_
 refine qai (fun _=>qkZ (qgz h)) fun _=>?_
 refine qai (fun _=>qdo (qgz h) _ _) fun _=>?_
 refine qai (fun _=>qkZ (ok_up h)) fun _=>?_
 refine qai (fun _=>hf (h.lim.flags rfl rfl rfl rfl rfl rfl rfl rfl rfl) rfl rfl rfl rfl rfl rfl rfl) fun _=>?_
 refine qai (fun _=>?_) fun _=>h
 have:=qlT T T.grid.w T.grid.h h.lim.rp
 rw[h.lim.g1.1,h.lim.g1.2,qg3 h.lim.wb,qg3 h.lim.hb]at this
 rw[h.lim.g1.1,h.lim.g1.2];exact this
theorem ok_osc (h:Okt true W H T){a:Ac}(ha:AcOk a):Okt true W H (qlH T a):=by
 unfold qlH
 split
 ·exact{h with lim:=h.lim.flags rfl rfl rfl rfl rfl rfl rfl rfl rfl,ti:=by show(a.text.extract _ _).size<=40;rw[ByteArray.size_extract];have:=ha.t;omega}
 ·exact h
theorem ok_act (h:Okt true W H T){a:Ac}(ha:AcOk a):Okt true W H (qef T a):=by
 unfold qef
 split
 ·exact ok_print h _
 split
 ·exact ok_exec h _
 split
 ·exact ok_esc h a
 split
 ·exact ok_csi h a
 split
 ·exact ok_osc h ha
 ·exact h
theorem ok_acts (h:Okt true W H T)(l:List Ac)(hl:∀a∈l,AcOk a):Okt true W H (l.foldl qef T):=by
 induction l generalizing T with
 |nil=>exact h
 |cons a l ih=>exact ih (ok_act h (hl a (List.mem_cons_self ..))) fun b hb=>hl b (List.mem_cons_of_mem _ hb)
theorem ok_feed (h:Okt true W H T)(hp:T.parser.lim){c:Int}(hc:0<=c/\c<=255):Okt true W H (qjL T c):=
 ok_acts (T:={T with parser:=(qbh T.parser c).1}) (h.flags (qfj h.lim _) rfl rfl rfl rfl rfl rfl rfl) _ (qiw hp hc).2
theorem qjX (h:Okt true W H T)(hp:T.parser.lim)(s:ByteArray):∀k,Okt true W H (qdl T s k)/\(qdl T s k).parser.lim
 |0=>⟨h,hp⟩
 |k+1=>by
  obtain⟨h1,h2⟩:=qjX h hp s k
  exact⟨ok_feed h1 h2 (qcW s _),qdI hp s (k+1)⟩
theorem ok_write (h:Okt true W H T)(hp:T.parser.lim)(s:ByteArray):Okt true W H (qgt T s):=(qjX h hp s _).1
end
theorem qiH {c:Cur}{w h:Int}(hw:1<=w):(fixC c w h).late=true->(fixC c w h).x=w-1:=fun e=>by
 have e:(c.late&&((c.x:Int)==w-1))=true:=e
 rw[Bool.and_eq_true,beq_iff_eq]at e
 show min c.x (w-1)=w-1
 omega
theorem qoN {W H:Int}{T:TS}(h:Okt true W H T)(p1 p2:Int):Okt true (qi p1) (qi p2) (qcz T p1 p2):=by
 have hl:=qhL h.lim p1 p2
 obtain⟨e1,e2,e3,e4,e5,e6,e7⟩:=rs2_f T p1 p2
 have hg1:=h.lim.g1
 have hg2:=h.lim.g2
 have hw:=h.lim.wb
 have hh:=h.lim.hb
 have hs1:1<=qi p1:=by unfold qi;omega
 have hr1:okD (rs1 T p1 p2).grid/\(rs1 T p1 p2).other=T.other/\(∀l∈(rs1 T p1 p2).back,okB l)/\(rs1 T p1 p2).title=T.title:=by
  unfold rs1
  split
  ·exact⟨qfk h.g (by omega) _ _ _,rfl,h.b,rfl⟩
  ·exact⟨qfk h.g (by omega) _ _ _,rfl,qjT h.b fun l hl=>okB_of h.g ⟨by omega,by omega⟩ (List.mem_of_mem_take hl),rfl⟩
 have hgw:(rs2 T p1 p2).grid.w=qi p1:=e4
 refine⟨hl,hr1.1,?_,hr1.2.2.1,?_,fun _ e=>?_,?_,fun e=>?_,?_,fun e=>?_,?_⟩
 ·show okD (qdX (rs1 T p1 p2).other p1 (qjP p2) 0)
  rw[hr1.2.1];exact qfk h.o (by omega) _ _ _
 ·show qB (rs2 T p1 p2).cursor.sty=true;rw[e1];exact h.cs
 ·have:=qiH (w:=(rs2 T p1 p2).grid.w) (by omega) e;rw[<-hgw];exact this
 ·show qB (rs2 T p1 p2).saved.sty=true;rw[e2];exact h.ss
 ·have:=qiH (w:=(rs2 T p1 p2).grid.w) (by omega) e;rw[<-hgw];exact this
 ·show qB (rs2 T p1 p2).away.sty=true;rw[e3];exact h.ay
 ·have:=qiH (w:=(rs2 T p1 p2).grid.w) (by omega) e;rw[<-hgw];exact this
 ·show(rs1 T p1 p2).title.size<=40;rw[hr1.2.2.2];exact h.ti
theorem ok_do {W H:Int}{T:TS}(h:Okt true W H T)(hp:T.parser.lim)(x:Stp):∃W' H',Okt true W' H' (doT T x):=by
 unfold doT
 split
 ·exact⟨W,H,ok_write h hp _⟩
 ·exact⟨_,_,qoN h _ _⟩
def qaA (l:List Int):Prop:= ∀x∈l,0<=x/\x<=255
def qhP:Nat->Nat->List Int
 |0,n=>[(n:Int)]
 |f+1,n=>if n<128 then[(n:Int)]else((n % 128+128:Nat):Int)::qhP f (n/128)
abbrev qS (n:Nat):List Int:=qhP 9 n
def qdb:Nat->Nat->List Int->Nat×Nat
 |_,_,[]=>(0,0)
 |i,n,c::r=>
  if(i=9/\1<c)\/9<i then(0,0)
  else if c<128 then(if c=0/\0<i then(0,0)else(n+c.toNat % 128*128^i,i+1))
  else qdb (i+1) (n+c.toNat % 128*128^i) r
abbrev qa1 (l:List Int):Nat×Nat:=qdb 0 0 l
theorem qcM {f n:Nat}(h:n<128):qhP f n=[(n:Int)]:=by
 cases f with
 |zero=>rfl
 |succ f=>rw[qhP,if_pos h]
theorem qeM {f n:Nat}(h:¬n<128):qhP (f+1) n=((n % 128+128:Nat):Int)::qhP f (n/128):=by rw[qhP,if_neg h]
theorem qoO (f n:Nat):qhP f n≠[]:=by
 cases f with
 |zero=>exact List.cons_ne_nil _ _
 |succ f=>rw[qhP];split<;>exact List.cons_ne_nil _ _
theorem qlU (m i:Nat):m*128^(i+1)=128*m*128^i:=by
 rw[Nat.pow_succ,Nat.mul_comm 128 m,Nat.mul_assoc,Nat.mul_comm (128^i)]
theorem qn7:∀(ys:List Int) (i acc n k:Nat),qaA ys->i<=9->qdb i acc ys=(n,k)->k=0\/
  ∃m zs,n=acc+m*128^i/\ys=qhP (9-i) m++zs/\k=i+(qhP (9-i) m).length/\(0<i->0<m)/\m<2^(64-7*i):=by
 intro ys
 induction ys with
 |nil=>
  intro i acc n k _ _ h
  rw[qdb]at h
  exact .inl (Prod.mk.inj h).2.symm
 |cons c r ih=>
  intro i acc n k hb hi h
  have hc:=hb c (List.mem_cons_self ..)
  rw[qdb]at h
  split at h
  ·exact .inl (Prod.mk.inj h).2.symm
  ·rename_i h1
   split at h
   ·rename_i h2
    split at h
    ·exact .inl (Prod.mk.inj h).2.symm
    ·rename_i h3
     obtain⟨rfl,rfl⟩:=Prod.mk.inj h
     have hs:c.toNat<128:=by omega
     refine .inr ⟨c.toNat,r,by rw[Nat.mod_eq_of_lt hs],?_,?_,fun h0=>by omega,?_⟩
     ·rw[qcM hs];simp;omega
     ·rw[qcM hs];rfl
     ·rcases Nat.lt_or_ge i 9 with h9|h9
      ·have:2^8<=2^(64-7*i):=Nat.pow_le_pow_right (by decide) (by omega)
       omega
      ·obtain rfl:i=9:=by omega
       show c.toNat<2
       omega
   ·rename_i h2
    have h9:i+1<=9:=by omega
    rcases ih (i+1) _ n k (fun x hx=>hb x (List.mem_cons_of_mem _ hx)) h9 h with h0|⟨m,zs,e1,e2,e3,e4,e5⟩
    ·exact .inl h0
    ·have h4:=e4 (Nat.succ_pos i)
     have hm:¬c.toNat % 128+128*m<128:=by omega
     have hf:9-i=(9-(i+1))+1:=by omega
     have hd:(c.toNat % 128+128*m)/128=m:=by omega
     have hr:(c.toNat % 128+128*m)% 128+128=c.toNat:=by omega
     refine .inr ⟨c.toNat % 128+128*m,zs,?_,?_,?_,fun _=>by omega,?_⟩
     ·rw[e1,qlU,Nat.add_mul];omega
     ·rw[hf,qeM hm,hd,hr,e2]
      simp;omega
     ·rw[hf,qeM hm,hd,e3,List.length_cons];omega
     ·have:2^(64-7*i)=128*2^(64-7*(i+1)):=by
       rw[show 64-7*i=(64-7*(i+1))+7 by omega,Nat.pow_add];omega
      rw[this];omega
theorem qoP:∀(f i acc m:Nat) (r:List Int),f=9-i->i<=9->m<2^(64-7*i)->(0<i->0<m)->qdb i acc (qhP f m++r)=(acc+m*128^i,i+(qhP f m).length):=by
 intro f
 induction f with
 |zero=>
  intro i acc m r hf hi hm h0
  obtain rfl:i=9:=by omega
  have hm2:m<2:=hm
  show qdb 9 acc (((m:Nat):Int)::r)=_
  rw[qdb,if_neg (by omega),if_pos (by omega),if_neg (by omega)]
  have e:((m:Nat):Int).toNat % 128=m:=by omega
  rw[e];rfl
 |succ f ih=>
  intro i acc m r hf hi hm h0
  by_cases hs:m<128
  ·rw[qcM hs]
   show qdb i acc (((m:Nat):Int)::r)=_
   rw[qdb,if_neg (by omega),if_pos (by omega),if_neg (by omega)]
   have e:((m:Nat):Int).toNat % 128=m:=by omega
   rw[e];rfl
  ·rw[qeM hs]
   show qdb i acc (((m % 128+128:Nat):Int)::(qhP f (m/128)++r))=_
   rw[qdb,if_neg (by omega),if_neg (by omega)]
   have e:((m % 128+128:Nat):Int).toNat % 128=m % 128:=by omega
   have hp:2^(64-7*i)=128*2^(64-7*(i+1)):=by
    rw[show 64-7*i=(64-7*(i+1))+7 by omega,Nat.pow_add];omega
   rw[ih (i+1) _ (m/128) r (by omega) (by omega) (by rw[hp]at hm;omega) (fun _=>by omega),e,qlU,List.length_cons]
   refine Prod.ext ?_ (by show i+1+_=i+(_+1);omega)
   show acc+m % 128*128^i+128*(m/128)*128^i=acc+m*128^i
   rw[Nat.add_assoc,<-Nat.add_mul]
   congr 2
   omega
theorem qjY:∀(f n:Nat),n<128^(f+1)->qaA (qhP f n)
 |0,n,h=>fun x hx=>by
  rw[List.mem_singleton.1 hx]
  have:n<128:=h
  omega
 |f+1,n,h=>fun x hx=>by
  by_cases hs:n<128
  ·rw[qcM hs]at hx
   rw[List.mem_singleton.1 hx];omega
  ·rw[qeM hs]at hx
   rcases List.mem_cons.1 hx with rfl|hx
   ·omega
   ·exact qjY f (n/128) (by rw[Nat.pow_succ]at h;omega) x hx
theorem qhQ {ys:List Int}{n k:Nat}(hb:qaA ys)(h:qa1 ys=(n,k)):k=0\/(ys=qS n++ys.drop k/\k<=ys.length/\n<2^64):=by
 rcases qn7 ys 0 0 n k hb (by decide) h with h0|⟨m,zs,e1,e2,e3,_,e5⟩
 ·exact .inl h0
 ·right
  have e:n=m:=by rw[e1];simp
  subst e
  rw[Nat.zero_add]at e3
  refine⟨?_,?_,e5⟩
  ·rw[e3]
   conv=>rhs;rw[e2]
   rw[List.drop_left' rfl]
   exact e2
  ·rw[e3,e2,List.length_append];exact Nat.le_add_right _ _
theorem qlV {ys:List Int}(hb:qaA ys):(qa1 ys).2<=ys.length/\(qa1 ys).1<2^64:=by
 rcases qhQ hb (rfl:qa1 ys=((qa1 ys).1,(qa1 ys).2))with h|h
 ·refine⟨by rw[h];exact Nat.zero_le _,?_⟩
  have:∀(ys:List Int) (i acc:Nat),(qdb i acc ys).2=0->(qdb i acc ys).1=0:=by
   intro ys
   induction ys with
   |nil=>intro i acc _;rfl
   |cons c r ih=>
    intro i acc h
    rw[qdb]at h⊢
    split
    ·rfl
    ·rename_i h1
     rw[if_neg h1]at h
     split
     ·rename_i h2
      rw[if_pos h2]at h
      split
      ·rfl
      ·rename_i h3
       rw[if_neg h3]at h
       cases h
     ·rename_i h2
      rw[if_neg h2]at h
      exact ih _ _ h
  rw[this ys 0 0 h];decide
 ·exact h.2
theorem qjZ {n:Nat}(r:List Int)(h:n<2^64):qa1 (qS n++r)=(n,(qS n).length):=by
 have:=qoP 9 0 0 n r rfl (by decide) h (fun h=>by cases h)
 exact this.trans (by simp)
abbrev RS:=Option (List Int)
def qM (lim:Int):RS->Int×RS
 |none=>(0,none)
 |some ys=>if(qa1 ys).2=0\/9223372036854775807<(qa1 ys).1\/(0<lim/\lim<=((qa1 ys).1:Int))then(0,none)else(((qa1 ys).1:Int),some (ys.drop (qa1 ys).2))
def qb4 (most:Int)(s:RS):ByteArray×RS:=
 match qM (if 0<most then most+1 else 1) s with
 |(_,none)=>(E0,none)
 |(n,some ys)=>if(ys.length:Int)<n then(E0,none)else(qf (ys.take n.toNat),some (ys.drop n.toNat))
def qaW (s:ByteArray):List Int:=s.data.toList.map fun b=>(b.toNat:Int)
def qbp (s:ByteArray):List Int:=qS s.size++qaW s
theorem qeN (s:ByteArray):(qaW s).length=s.size:=by simp[qaW]
theorem qgA (s:ByteArray):qaA (qaW s):=fun x hx=>by
 obtain⟨b,_,rfl⟩:=List.mem_map.1 hx
 have:=b.toNat_lt
 omega
theorem qcr (l:List Int):(qf l).data.toList=l.map fun n=>UInt8.ofNat n.toNat:=by
 have h:∀(l:List Int) (r:ByteArray),(l.foldl (fun r n=>r.push (UInt8.ofNat n.toNat)) r).data.toList=r.data.toList++l.map fun n=>UInt8.ofNat n.toNat:=by
  intro l
  induction l with
  |nil=>intro r;simp
  |cons c l ih=>intro r;rw[List.foldl_cons,ih];simp[ByteArray.push]
 have:=h l ByteArray.empty
 simpa[qf]using this
theorem qiI {l:List Int}(h:qaA l):qaW (qf l)=l:=by
 unfold qaW
 rw[qcr,List.map_map]
 refine(List.map_congr_left fun x hx=>?_).trans (List.map_id _)
 have:=h x hx
 show(((UInt8.ofNat x.toNat).toNat:Nat):Int)=x
 rw[UInt8.toNat_ofNat_of_lt' (show x.toNat<UInt8.size by show x.toNat<256;omega)]
 omega
theorem qbn (l:List Int):(qf l).size=l.length:=by
 have:=congrArg List.length (qcr l)
 simpa using this
theorem qdp {l:List Int}(h:qaA l)(k:Nat):qaA (l.drop k):=fun x hx=>h x (List.mem_of_mem_drop hx)
theorem qoQ {l:List Int}(h:qaA l)(k:Nat):qaA (l.take k):=fun x hx=>h x (List.mem_of_mem_take hx)
theorem qj {l m:List Int}(h:qaA l)(h':qaA m):qaA (l++m):=fun x hx=>(List.mem_append.1 hx).elim (h x) (h' x)
def rsB (s:RS):Prop:= ∀ys,s=some ys->qaA ys
theorem qa5 {lim:Int}{s:RS}{n:Int}{zs:List Int}(hs:rsB s)(h:qM lim s=(n,some zs)):∃ys,s=some ys/\ys=qS n.toNat++zs/\0<=n/\n<=9223372036854775807/\(0<lim->n<lim):=by
 cases s with
 |none=>cases h
 |some ys=>
  refine⟨ys,rfl,?_⟩
  rw[qM]at h
  split at h
  ·cases h
  ·rename_i h0
   obtain⟨rfl,e⟩:=Prod.mk.inj h
   obtain rfl:=Option.some.inj e
   rcases qhQ (hs ys rfl) (rfl:qa1 ys=((qa1 ys).1,(qa1 ys).2))with h1|⟨h1,h2,h3⟩
   ·exact absurd (.inl h1) h0
   ·exact⟨by rw[Int.toNat_natCast];exact h1,by omega,by omega,fun hl=>by omega⟩
theorem qE {lim:Int}{s:RS}(hs:rsB s):rsB (qM lim s).2:=by
 cases s with
 |none=>exact hs
 |some ys=>
  rw[qM]
  split
  ·intro ys h;cases h
  ·intro zs h
   obtain rfl:=Option.some.inj h
   exact qdp (hs ys rfl) _
theorem qa6 {lim:Int}{s:RS}:0<=(qM lim s).1/\(qM lim s).1<=9223372036854775807/\(0<lim->(qM lim s).1<lim):=by
 cases s with
 |none=>exact⟨Int.le_refl 0,(by decide:(0:Int)<=9223372036854775807),fun h=>h⟩
 |some ys=>
  rw[qM]
  split
  ·exact⟨Int.le_refl 0,(by decide:(0:Int)<=9223372036854775807),fun h=>h⟩
  ·exact⟨by omega,by omega,fun h=>by omega⟩
theorem qcN {most:Int}{s:RS}{x:ByteArray}{zs:List Int}(hs:rsB s)(h:qb4 most s=(x,some zs))(h0:0<most):∃ys,s=some ys/\ys=qbp x++zs/\(x.size:Int)<=most:=by
 unfold qb4 at h
 rw[if_pos h0]at h
 split at h
 ·cases h
 ·rename_i n ys e
  split at h
  ·cases h
  ·rename_i h1
   obtain⟨rfl,e2⟩:=Prod.mk.inj h
   obtain rfl:=Option.some.inj e2
   obtain⟨us,rfl,e3,h3,h4,h5⟩:=qa5 hs e
   have hb:qaA ys:=by
    have:=hs us rfl
    rw[e3]at this
    exact fun x hx=>this x (List.mem_append_right _ hx)
   have hz:(qf (ys.take n.toNat)).size=n.toNat:=by rw[qbn,List.length_take];omega
   refine⟨us,rfl,?_,by rw[hz];have:=h5 (by omega);omega⟩
   unfold qbp
   rw[hz,qiI (qoQ hb _),List.append_assoc,List.take_append_drop]
   exact e3
theorem qdJ {most:Int}{s:RS}(hs:rsB s):rsB (qb4 most s).2:=by
 unfold qb4
 split
 ·intro ys h;cases h
 ·rename_i n ys e
  split
  ·intro ys h;cases h
  ·intro zs h
   obtain rfl:=Option.some.inj h
   have:=qE (lim:=if 0<most then most+1 else 1) hs
   rw[e]at this
   exact qdp (this ys rfl) _
theorem or64 {a b k:Nat}(ha:a<2^k)(hb:∃c,b=c*2^k)(hs:a+b<2^64):qe .or .u64 (a:Int) (b:Int)=((a+b:Nat):Int):=by
 obtain⟨c,rfl⟩:=hb
 have e:(BitVec.ofInt 64 (a:Int)|||BitVec.ofInt 64 ((c*2^k:Nat):Int)).toNat=a+c*2^k:=by
  rw[BitVec.ofInt_natCast,BitVec.ofInt_natCast,BitVec.toNat_or,BitVec.toNat_ofNat,BitVec.toNat_ofNat,Nat.mod_eq_of_lt (by omega),Nat.mod_eq_of_lt (by omega),Nat.or_comm,<-Nat.shiftLeft_eq,<-Nat.shiftLeft_add_eq_or_of_lt ha,Nat.shiftLeft_eq]
  omega
 show IntKind.wrap .u64 ((BitVec.ofInt 64 (a:Int)|||BitVec.ofInt 64 ((c*2^k:Nat):Int)).toNat:Int)=_
 rw[e]
 exact qca ⟨by omega,by omega⟩
theorem qoR {n:Nat}(h:n<2^64):IntKind.wrap .u64 (n:Int)=(n:Int):=qca ⟨by omega,by omega⟩
theorem qoS (i:Nat):2^(7*i)=128^i:=by rw[Nat.pow_mul]
theorem qoT {i:Nat}(h:i<=9):128^i<=128^9:=Nat.pow_le_pow_right (by decide) h
abbrev orT (n c:Int)(i:Nat):Int:=qe .or .u64 n (IntKind.wrap .u64 (IntKind.wrap .u64 (qe .and .u8 c 127)*2^min (7*((i:Nat):Int):Int).toNat (IntKind.bits .u64)))
theorem and127:∀c,c<256->qe .and .u8 (c:Nat) 127=((c % 128:Nat):Int):=by decide+kernel
theorem orT_eq {n i:Nat}{c:Int}(hc:0<=c/\c<=255)(hi:i<=9)(h9:i=9->c<=1)(hn:n<128^i):orT (n:Int) c i=((n+c.toNat % 128*128^i:Nat):Int):=by
 have e1:qe .and .u8 c 127=((c.toNat % 128:Nat):Int):=by
  have:=and127 c.toNat (by omega)
  rwa[Int.toNat_of_nonneg hc.1]at this
 have hp:=qoT hi
 have hb:c.toNat % 128*128^i<=128^9:=by
  rcases Nat.lt_or_ge i 9 with h|h
  ·have h8:128^i<=128^8:=Nat.pow_le_pow_right (by decide) (by omega)
   calc c.toNat % 128*128^i<=128*128^8:=Nat.mul_le_mul (by omega) h8
    _=128^9:=by decide
  ·have:=h9 (by omega)
   calc c.toNat % 128*128^i<=1*128^9:=Nat.mul_le_mul (by omega) hp
    _=128^9:=by decide
 have e2:(2:Int)^min (7*((i:Nat):Int):Int).toNat (IntKind.bits .u64)=((128^i:Nat):Int):=by
  rw[show min (7*((i:Nat):Int):Int).toNat (IntKind.bits .u64)=7*i by show min _ 64=_;omega,<-qoS]
  norm_cast
 have h64:(2:Nat)^64=2*128^9:=by decide
 unfold orT
 rw[e1,qoR (by omega),e2,<-Int.natCast_mul,qoR (by omega)]
 refine or64 (k:=7*i) (by rw[qoS];exact hn) ⟨c.toNat % 128,by rw[qoS]⟩ (by omega)
def qdc:Nat->Int->List Int->Int×Int
 |_,_,[]=>(0,0)
 |i,n,c::r=>
  if(i=9/\1<c)\/9<i then(0,0)
  else if c<128 then(if c=0/\0<i then(0,0)else(orT n c i,((i:Nat):Int)+1))
  else qdc (i+1) (orT n c i) r
theorem takeG_eq:∀(ys:List Int) (i n:Nat),qaA ys->n<128^i->qdc i (n:Int) ys=(((qdb i n ys).1:Int),((qdb i n ys).2:Int)):=by
 intro ys
 induction ys with
 |nil=>intro i n _ _;rfl
 |cons c r ih=>
  intro i n hb hn
  have hc:=hb c (List.mem_cons_self ..)
  rw[qdc,qdb]
  by_cases h1:(i=9/\1<c)\/9<i
  ·rw[if_pos h1,if_pos h1];rfl
  ·rw[if_neg h1,if_neg h1,orT_eq hc (by omega) (by omega) hn]
   by_cases h2:c<128
   ·rw[if_pos h2,if_pos h2]
    by_cases h3:c=0/\0<i
    ·rw[if_pos h3,if_pos h3];rfl
    ·rw[if_neg h3,if_neg h3];simp
   ·rw[if_neg h2,if_neg h2]
    refine ih (i+1) _ (fun x hx=>hb x (List.mem_cons_of_mem _ hx)) ?_
    have:c.toNat % 128*128^i<=127*128^i:=Nat.mul_le_mul_right _ (by omega)
    rw[Nat.pow_succ];omega
theorem qcA {ys:List Int}(h:qaA ys):qdc 0 0 ys=(((qa1 ys).1:Int),((qa1 ys).2:Int)):=takeG_eq ys 0 0 h (by decide)
abbrev shr7 (n:Int):Int:=Int.fdiv n (2^min (7:Int).toNat (IntKind.bits .u64))
abbrev low7 (n:Int):Int:=qe .or .u8 (IntKind.wrap .u8 n) 128
theorem shr7_eq (n:Nat):shr7 (n:Int)=((n/128:Nat):Int):=by
 show Int.fdiv (n:Int) 128=_
 rw[Int.fdiv_eq_ediv_of_nonneg _ (by decide)];omega
theorem or128:∀c,c<256->qe .or .u8 (c:Nat) 128=((c % 128+128:Nat):Int):=by decide+kernel
theorem wrap8 (n:Nat):IntKind.wrap .u8 (n:Int)=((n % 256:Nat):Int):=by
 simp[IntKind.wrap,IntKind.bits,IntKind.signed]
theorem low7_eq (n:Nat):low7 (n:Int)=((n % 128+128:Nat):Int):=by
 unfold low7
 rw[wrap8,or128 _ (Nat.mod_lt _ (by decide)),Nat.mod_mod_of_dvd _ (by decide)]
def qah (f:Nat->Bool):Nat->Nat
 |0=>0
 |k+1=>qah f k+if f k=true then 2^k else 0
def lb (l:List Bool)(i:Nat):Bool:=l.getD i false
def qa8 (l:List Bool):Nat:=qah (lb l) l.length
theorem qbv (f:Nat->Bool):∀k,qah f k<2^k
 |0=>Nat.one_pos
 |k+1=>by
  have:=qbv f k
  rw[qah,Nat.pow_succ]
  split<;>omega
theorem qcs {f g:Nat->Bool}:∀{k:Nat},(∀i,i<k->f i=g i)->qah f k=qah g k
 |0,_=>rfl
 |k+1,h=>by rw[qah,qah,h k (Nat.lt_succ_self k),qcs fun i hi=>h i (Nat.lt_succ_of_lt hi)]
abbrev orF (n:Int)(i:Nat):Int:=qe .or .u64 n (IntKind.wrap .u64 (1*2^min ((i:Nat):Int).toNat (IntKind.bits .u64)))
theorem orF_eq {n i:Nat}(hi:i<64)(hn:n<2^i):orF (n:Int) i=((n+2^i:Nat):Int):=by
 have hp:2^i<=2^63:=Nat.pow_le_pow_right (by decide) (by omega)
 have e2:(2:Int)^min ((i:Nat):Int).toNat (IntKind.bits .u64)=((2^i:Nat):Int):=by
  rw[show min ((i:Nat):Int).toNat (IntKind.bits .u64)=i by show min _ 64=_;omega]
  norm_cast
 unfold orF
 rw[e2,Int.one_mul,qoR (by omega)]
 exact or64 (k:=i) hn ⟨1,by rw[Nat.one_mul]⟩ (by omega)
def qeg (n i:Nat):Bool:=n/2^i % 2==1
theorem qfl (n:Nat):∀k,qah (qeg n) k=n % 2^k
 |0=>by rw[qah];omega
 |k+1=>by
  rw[qah,qfl n k,Nat.pow_succ,Nat.mod_mul]
  unfold qeg
  have:=Nat.mod_two_eq_zero_or_one (n/2^k)
  rcases this with h|h<;>rw[h]<;>simp
theorem and1_eq (k:IntKind)(hk:k= .i64\/k= .u64)(n:Nat)(h:n<2^63):qe .and k (n:Int) 1=((n % 2:Nat):Int):=by
 have e:(BitVec.ofInt 64 (n:Int)&&&BitVec.ofInt 64 1).toNat=n % 2:=by
  rw[BitVec.ofInt_natCast,BitVec.toNat_and,BitVec.toNat_ofNat,Nat.mod_eq_of_lt (by omega)]
  exact Nat.and_one_is_mod n
 rcases hk with rfl|rfl
 ·show IntKind.wrap .i64 ((BitVec.ofInt 64 (n:Int)&&&BitVec.ofInt 64 1).toNat:Int)=_
  rw[e]
  exact qca ⟨by omega,by omega⟩
 ·show IntKind.wrap .u64 ((BitVec.ofInt 64 (n:Int)&&&BitVec.ofInt 64 1).toNat:Int)=_
  rw[e]
  exact qca ⟨by omega,by omega⟩
theorem bit_eq (k:IntKind)(hk:k= .i64\/k= .u64){n i:Nat}(h:n<2^63)(hi:i<64):((qe .and k (Int.fdiv (n:Int) (2^min ((i:Nat):Int).toNat (IntKind.bits k))) 1:Int)==1)=qeg n i:=by
 have e:Int.fdiv (n:Int) (2^min ((i:Nat):Int).toNat (IntKind.bits k))=((n/2^i:Nat):Int):=by
  have e2:(2:Int)^min ((i:Nat):Int).toNat (IntKind.bits k)=((2^i:Nat):Int):=by
   rw[show min ((i:Nat):Int).toNat (IntKind.bits k)=i by rcases hk with rfl|rfl<;>(show min _ 64=_;omega)]
   norm_cast
  rw[e2,Int.fdiv_eq_ediv_of_nonneg _ (Int.natCast_nonneg _)]
  norm_cast
 rw[e,and1_eq k hk _ (Nat.lt_of_le_of_lt (Nat.div_le_self _ _) h)]
 unfold qeg
 have:=Nat.mod_two_eq_zero_or_one (n/2^i)
 rcases this with h|h<;>rw[h]<;>rfl
def qbA (s:Sty):Nat:=s.fore.toNat+16*s.back.toNat+(if s.bold=true then 256 else 0)+(if s.under=true then 512 else 0)+if s.turned=true then 1024 else 0
def qk0 (n:Nat):Sty:=⟨n/256 % 2==1,n/512 % 2==1,n/1024 % 2==1,((n % 16:Nat):Int),((n/16 % 16:Nat):Int)⟩
theorem ql1:∀n,n<2048->qbA (qk0 n)=n:=by decide+kernel
theorem ql2 (s:Sty)(h:qB s=true):qk0 (qbA s)=s:=by
 obtain⟨a,b,c,f,k⟩:=s
 simp only[qB,Bool.and_eq_true,decide_eq_true_eq]at h
 obtain⟨f,rfl⟩:∃n:Nat,f=(n:Int):=⟨f.toNat,by omega⟩
 obtain⟨k,rfl⟩:∃n:Nat,k=(n:Int):=⟨k.toNat,by omega⟩
 have key:∀f,f<9-> ∀k,k<9-> ∀a b c:Bool,qk0 (qbA ⟨a,b,c,((f:Nat):Int),((k:Nat):Int)⟩)=⟨a,b,c,((f:Nat):Int),((k:Nat):Int)⟩:=by
  intro f hf k hk a b c
  unfold qk0 qbA
  simp only[Int.toNat_natCast,Sty.mk.injEq]
  cases a<;>cases b<;>cases c<;>simp<;>omega
 exact key f (by omega) k (by omega) a b c
theorem qeO {s:Sty}(h:qB s=true):qbA s<2048:=by
 simp only[qB,Bool.and_eq_true,decide_eq_true_eq]at h
 unfold qbA
 split<;>split<;>split<;>omega
def qgB (s:RS):Sty×Bool×RS:=if((qM 2048 s).2.isSome&&qB (qk0 (qM 2048 s).1.toNat))=true then(qk0 (qM 2048 s).1.toNat,true,(qM 2048 s).2)else(qd7,false,(qM 2048 s).2)
theorem qk1 {s:RS}{x:Sty}{s':RS}(hs:rsB s)(h:qgB s=(x,true,s')):∃ys zs,s=some ys/\s'=some zs/\ys=qS (qbA x)++zs/\qB x=true:=by
 unfold qgB at h
 split at h
 ·rename_i h1
  simp only[Prod.mk.injEq,true_and]at h
  obtain⟨rfl,rfl⟩:=h
  rw[Bool.and_eq_true]at h1
  obtain⟨h1,h2⟩:=h1
  obtain⟨zs,hz⟩:=Option.isSome_iff_exists.1 h1
  obtain⟨ys,e1,e2,e3,e4,e5⟩:=qa5 hs (Prod.ext rfl hz)
  have h7:(qM 2048 s).1.toNat<2048:=by have h8:(qM 2048 s).1<2048:=e5 (by decide);omega
  exact⟨ys,zs,e1,hz,by rw[ql1 _ h7];exact e2,h2⟩
 ·simp at h
theorem qk2 {s:RS}(hs:rsB s):rsB (qgB s).2.2:=by
 unfold qgB
 split<;>exact qE hs
def qdq (n:Nat)(c:Cel):List Int:=qS n++(qS c.rune.toNat++qS (qbA c.sty))
def qhi (c:Cel):List (Nat×Cel)->List (Nat×Cel)
 |[]=>[(1,c)]
 |(n,d)::t=>if d=c then(n+1,d)::t else(1,c)::(n,d)::t
def qe1:List Cel->List (Nat×Cel)
 |[]=>[]
 |c::r=>qhi c (qe1 r)
def qa2 (l:List Cel):List Int:=(qe1 l).flatMap fun p=>qdq p.1 p.2
theorem consR_ne (c:Cel)(t:List (Nat×Cel)):qhi c t≠[]:=by
 unfold qhi
 split
 ·exact List.cons_ne_nil _ _
 ·split<;>exact List.cons_ne_nil _ _
theorem runsL_ne {l:List Cel}(h:l≠[]):qe1 l≠[]:=by
 cases l with
 |nil=>exact absurd rfl h
 |cons c r=>exact consR_ne _ _
theorem qn8:∀{l:List Cel} {n:Nat} {d:Cel} {t:List (Nat×Cel)},qe1 l=(n,d)::t->l.head? =some d
 |[],_,_,_,h=>by cases h
 |c::r,n,d,t,h=>by
  unfold qe1 qhi at h
  split at h
  ·simp only[List.cons.injEq,Prod.mk.injEq]at h
   rw[<-h.1.2];rfl
  ·split at h
   ·rename_i e
    simp only[List.cons.injEq,Prod.mk.injEq]at h
    rw[<-h.1.2,e];rfl
   ·simp only[List.cons.injEq,Prod.mk.injEq]at h
    rw[<-h.1.2];rfl
theorem qeP (c:Cel)(r:List Cel)(h:r.head? ≠some c):∀n,qe1 (List.replicate (n+1) c++r)=(n+1,c)::qe1 r
 |0=>by
  show qhi c (qe1 r)=_
  unfold qhi
  split
  ·rename_i e;rw[e]
  ·rename_i n d t e
   rw[if_neg (fun hd=>h (by rw[qn8 e,hd])),e]
 |n+1=>by
  rw[List.replicate_succ]
  show qhi c (qe1 (List.replicate (n+1) c++r))=_
  rw[qeP c r h n,qhi,if_pos rfl]
theorem qdr {c:Cel}{r:List Cel}(h:r.head? ≠some c)(n:Nat):qa2 (List.replicate (n+1) c++r)=qdq (n+1) c++qa2 r:=by
 unfold qa2
 rw[qeP c r h n];rfl
theorem qhR {c:Cel}{n:Nat}:∀{l:List Cel},l.getLast? ≠some c->qe1 (l++List.replicate (n+1) c)=qe1 l++[(n+1,c)]
 |[],_=>by
  have:=qeP c [] (by simp) n
  rw[List.append_nil]at this
  exact this
 |d::r,h=>by
  show qhi d (qe1 (r++List.replicate (n+1) c))=qhi d (qe1 r)++_
  cases r with
  |nil=>
   have hd:¬c=d:=fun e=>h (by rw[e];rfl)
   have:=qeP c [] (by simp) n
   rw[List.append_nil]at this
   rw[List.nil_append,this]
   show(if c=d then _ else _)=_
   rw[if_neg hd];rfl
  |cons e r=>
   have h2:(e::r).getLast? ≠some c:=by rw[List.getLast?_cons_cons]at h;exact h
   rw[qhR h2]
   have h3:=runsL_ne (List.cons_ne_nil e r)
   match hq:qe1 (e::r),h3 with
   |(k,q)::t,_=>
    show(if q=d then(k+1,q)::(t++_)else(1,d)::(k,q)::(t++_))=(if q=d then(k+1,q)::t else(1,d)::(k,q)::t)++_
    split<;>rfl
theorem qn9 {c:Cel}{n:Nat}{l:List Cel}(h:l.getLast? ≠some c)(hn:0<n):qa2 (l++List.replicate n c)=qa2 l++qdq n c:=by
 obtain⟨n,rfl⟩:∃m,n=m+1:=⟨n-1,by omega⟩
 unfold qa2
 rw[qhR h,List.flatMap_append];simp
def cOk (c:Cel):Prop:=qB c.sty=true/\0<=c.rune/\c.rune<1114112
def qk3 (W:Int)(out:List Cel)(s:RS):Option (List Cel)×RS:=
 if(qgB (qM 1114112 (qM (W-(out.length:Int)+1) s).2).2).2.1=false\/(qM (W-(out.length:Int)+1) s).1=0\/out.getLast? =some ⟨(qM 1114112 (qM (W-(out.length:Int)+1) s).2).1,(qgB (qM 1114112 (qM (W-(out.length:Int)+1) s).2).2).1⟩then(none,(qgB (qM 1114112 (qM (W-(out.length:Int)+1) s).2).2).2.2)
 else(some (out++List.replicate (qM (W-(out.length:Int)+1) s).1.toNat ⟨(qM 1114112 (qM (W-(out.length:Int)+1) s).2).1,(qgB (qM 1114112 (qM (W-(out.length:Int)+1) s).2).2).1⟩),(qgB (qM 1114112 (qM (W-(out.length:Int)+1) s).2).2).2.2)
theorem qct {W:Int}{out:List Cel}{s s1 s2 s3:RS}{n r:Int}{t:Sty}{ok:Bool}(h1:qM (W-(out.length:Int)+1) s=(n,s1))(h2:qM 1114112 s1=(r,s2))(h3:qgB s2=(t,ok,s3)):
  qk3 W out s=if ok=false\/n=0\/out.getLast? =some ⟨r,t⟩then(none,s3)else(some (out++List.replicate n.toNat ⟨r,t⟩),s3):=by
 unfold qk3
 rw[h1]
 dsimp only
 rw[h2]
 dsimp only
 rw[h3]
def qbW:Nat->Int->List Cel->RS->Option (List Cel)×RS
 |0,_,out,s=>(some out,s)
 |f+1,W,out,s=>if W<=(out.length:Int)then(some out,s)else match qk3 W out s with
  |(none,s')=>(none,s')
  |(some o,s')=>qbW f W o s'
def qds (W:Int)(s:RS):List Cel×Bool×RS:=match qbW W.toNat W [] s with
 |(none,s')=>([],false,s')
 |(some o,s')=>if qb1 o=true then(o,true,s')else([],false,s')
theorem qcO {f:Nat}{W:Int}{out:List Cel}{s:RS}(h:W<=(out.length:Int)):qbW f W out s=(some out,s):=by
 cases f with
 |zero=>rfl
 |succ f=>rw[qbW,if_pos h]
theorem qgC {f:Nat}{W:Int}{out:List Cel}{s s':RS}(h:¬W<=(out.length:Int))(hf:W.toNat-out.length<=f)(hs:qk3 W out s=(none,s')):qbW f W out s=(none,s'):=by
 cases f with
 |zero=>omega
 |succ f=>rw[qbW,if_neg h,hs]
theorem qlW {f:Nat}{W:Int}{out o:List Cel}{s s':RS}(h:¬W<=(out.length:Int))(hf:W.toNat-out.length<=f)(hs:qk3 W out s=(some o,s')):∃f',f=f'+1/\qbW f W out s=qbW f' W o s':=by
 cases f with
 |zero=>omega
 |succ f=>exact⟨f,rfl,by rw[qbW,if_neg h,hs]⟩
theorem qna {W:Int}{out:List Cel}{s:RS}(hs:rsB s):rsB (qk3 W out s).2:=by
 unfold qk3
 split<;>exact qk2 (qE (qE hs))
theorem qhS:∀(f:Nat) {W:Int} {out:List Cel} {s:RS},rsB s->rsB (qbW f W out s).2
 |0,_,_,_,h=>h
 |f+1,W,out,s,h=>by
  rw[qbW]
  split
  ·exact h
  ·have:=qna (W:=W) (out:=out) h
   split
   ·rename_i e;rw[e]at this;exact this
   ·rename_i e;rw[e]at this;exact qhS f this
theorem qfm {W:Int}{s:RS}(hs:rsB s):rsB (qds W s).2.2:=by
 have:=qhS W.toNat (W:=W) (out:=[]) hs
 unfold qds
 split
 ·rename_i e;rw[e]at this;exact this
 ·rename_i e
  rw[e]at this
  split<;>exact this
theorem qnb:∀(f:Nat) (W:Int) (out o:List Cel) (ys:List Int) (s':RS),qaA ys->(out.length:Int)<=W->(∀c∈out,cOk c)->W.toNat-out.length<=f->qbW f W out (some ys)=(some o,s')->
  ∃zs,s'=some zs/\qa2 out++ys=qa2 o++zs/\(o.length:Int)=W/\ ∀c∈o,cOk c:=by
 intro f
 induction f with
 |zero=>
  intro W out o ys s' hb hl hc hf h
  simp only[qbW,Prod.mk.injEq,Option.some.injEq]at h
  obtain⟨rfl,rfl⟩:=h
  exact⟨ys,rfl,rfl,by omega,hc⟩
 |succ f ih=>
  intro W out o ys s' hb hl hc hf h
  rw[qbW]at h
  split at h
  ·simp only[Prod.mk.injEq,Option.some.injEq]at h
   obtain⟨rfl,rfl⟩:=h
   exact⟨ys,rfl,rfl,by omega,hc⟩
  ·rename_i hW
   obtain⟨n,s1,h1⟩:∃n s1,qM (W-(out.length:Int)+1) (some ys)=(n,s1):=⟨_,_,rfl⟩
   obtain⟨r,s2,h2⟩:∃n s2,qM 1114112 s1=(n,s2):=⟨_,_,rfl⟩
   obtain⟨t,ok,s3,h3⟩:∃t ok s3,qgB s2=(t,ok,s3):=⟨_,_,_,rfl⟩
   rw[qct h1 h2 h3]at h
   split at h
   ·rename_i e
    split at e
    ·cases h
    ·cases e
   ·rename_i o2 s3' e
    split at e
    ·cases e
    ·rename_i hn
     simp only[Prod.mk.injEq,Option.some.injEq]at e
     obtain⟨rfl,rfl⟩:=e
     simp only[not_or]at hn
     obtain⟨n1,n2,n3⟩:=hn
     have hok:ok=true:=by cases ok<;>simp_all
     subst hok
     have hs0:rsB (some ys):=fun x hx=>by cases hx;exact hb
     have b1:=qE (lim:=W-(out.length:Int)+1) hs0
     rw[h1]at b1
     have b2:=qE (lim:=1114112) b1
     rw[h2]at b2
     obtain⟨y3,z3,e3,e3',e3'',hst⟩:=qk1 b2 h3
     subst e3 e3'
     obtain⟨y2,e2,e2',p2,p2',p2''⟩:=qa5 b1 h2
     subst e2
     obtain⟨y1,e1,e1',p1,p1',p1''⟩:=qa5 hs0 h1
     obtain rfl:=Option.some.inj e1
     have hn0:0<n.toNat:=by omega
     have hlim:=p1'' (by omega)
     have hb3:qaA z3:=by
      have:=b2 y3 rfl
      rw[e3'']at this
      exact fun x hx=>this x (List.mem_append_right _ hx)
     obtain⟨zs,q1,q2,q3,q4⟩:=ih W _ o z3 s' hb3 (by rw[List.length_append,List.length_replicate];omega) (fun c hc'=>by
      rcases List.mem_append.1 hc' with h|h
      ·exact hc c h
      ·rw[(List.mem_replicate.1 h).2];exact⟨hst,p2,by have:=p2'' (by decide);exact this⟩) (by rw[List.length_append,List.length_replicate];omega) h
     refine⟨zs,q1,?_,q3,q4⟩
     rw[<-q2,qn9 n3 hn0,e1',e2',e3'']
     unfold qdq
     simp only[List.append_assoc]
theorem qnc {W:Int}{s:RS}{o:List Cel}{s':RS}(hs:rsB s)(hW:0<W)(h:qds W s=(o,true,s')):∃ys zs,s=some ys/\s'=some zs/\ys=qa2 o++zs/\(o.length:Int)=W/\qb1 o=true/\ ∀c∈o,cOk c:=by
 unfold qds at h
 cases s with
 |none=>
  obtain⟨f,hf⟩:∃f,W.toNat=f+1:=⟨W.toNat-1,by omega⟩
  rw[hf,qbW,if_neg (by simpa using hW)]at h
  have:qk3 W [] none=(none,none):=by
   rw[qct (n:=0) (s1:=none) (r:=0) (s2:=none) (t:=qd7) (ok:=false) (s3:=none) rfl rfl rfl,if_pos (.inl rfl)]
  rw[this]at h
  simp at h
 |some ys=>
  split at h
  ·simp at h
  ·rename_i o2 s2 e
   split at h
   ·rename_i hw
    simp only[Prod.mk.injEq,true_and]at h
    obtain⟨rfl,rfl⟩:=h
    obtain⟨zs,q1,q2,q3,q4⟩:=qnb W.toNat W [] o2 ys s2 (hs ys rfl) (by simp;omega) (fun c hc=>by cases hc) (by simp) e
    exact⟨ys,zs,rfl,q1,q2,q3,hw,q4⟩
   ·simp at h
def qaj (W:Int):Nat->List (List Cel)->RS->Bool->List (List Cel)×RS×Bool
 |0,out,s,f=>(out,s,f)
 |k+1,out,s,f=>if(f&&(qds W s).2.1)=true then qaj W k (out++[(qds W s).1]) (qds W s).2.2 true else([],(qds W s).2.2,false)
theorem qbB {W:Int}:∀(k:Nat) {out:List (List Cel)} {s:RS} {f:Bool},rsB s->rsB (qaj W k out s f).2.1
 |0,_,_,_,h=>h
 |k+1,out,s,f,h=>by
  rw[qaj]
  split
  ·exact qbB k (qfm h)
  ·exact qfm h
theorem qcZ {W:Int}(hW:0<W):∀(k:Nat) {out L:List (List Cel)} {s s':RS} {f:Bool},rsB s->s.isSome=true\/0<k->qaj W k out s f=(L,s',true)->
  ∃M ys zs,f=true/\L=out++M/\s=some ys/\s'=some zs/\ys=M.flatMap qa2++zs/\M.length=k/\ ∀l∈M,(l.length:Int)=W/\qb1 l=true/\ ∀c∈l,cOk c
 |0,out,L,s,s',f,hs,h0,h=>by
  simp only[qaj,Prod.mk.injEq]at h
  obtain⟨rfl,rfl,rfl⟩:=h
  obtain⟨ys,rfl⟩:=Option.isSome_iff_exists.1 (h0.resolve_right (by decide))
  exact⟨[],ys,ys,rfl,(List.append_nil _).symm,rfl,rfl,rfl,rfl,fun l hl=>by cases hl⟩
 |k+1,out,L,s,s',f,hs,h0,h=>by
  obtain⟨l1,ok1,s1,hL⟩:∃a b c,qds W s=(a,b,c):=⟨_,_,_,rfl⟩
  have hb:=qfm (W:=W) hs
  rw[qaj,hL]at h
  rw[hL]at hb
  dsimp only at h hb
  split at h
  ·rename_i hf
   rw[Bool.and_eq_true]at hf
   obtain⟨hf,rfl⟩:=hf
   obtain⟨ys,zs,e1,rfl,e3,e4,e5,e6⟩:=qnc hs hW hL
   obtain⟨M,ys2,zs2,_,q1,q2,q3,q4,q5,q6⟩:=qcZ hW k hb (.inl rfl) h
   obtain rfl:=Option.some.inj q2
   exact⟨l1::M,ys,zs2,hf,by rw[q1];simp,e1,q3,by rw[e3,q4];simp,by simp[q5],fun l hl=>by
    rcases List.mem_cons.1 hl with rfl|hl
    ·exact⟨e4,e5,e6⟩
    ·exact q6 l hl⟩
  ·simp at h
def qe2:Nat->List (List Cel)->RS->Bool->List (List Cel)×RS×Bool
 |0,out,s,f=>(out,s,f)
 |k+1,out,s,f=>if((qaj (qM 61 s).1 1 [] (qM 61 s).2 f).2.2&&decide (0<(qM 61 s).1))=true then qe2 k (out++(qaj (qM 61 s).1 1 [] (qM 61 s).2 f).1) (qaj (qM 61 s).1 1 [] (qM 61 s).2 f).2.1 true else([],(qaj (qM 61 s).1 1 [] (qM 61 s).2 f).2.1,false)
def qfN (s:RS)(f:Bool):List (List Cel)×RS×Bool:=qe2 (qM 21 s).1.toNat [] (qM 21 s).2 f
def qbP (B:List (List Cel)):List Int:=B.flatMap fun l=>qS l.length++qa2 l
theorem qhT:∀(k:Nat) {out:List (List Cel)} {s:RS} {f:Bool},rsB s->rsB (qe2 k out s f).2.1
 |0,_,_,_,h=>h
 |k+1,out,s,f,h=>by
  rw[qe2]
  split
  ·exact qhT k (qbB 1 (qE h))
  ·exact qbB 1 (qE h)
theorem qhU:∀(k:Nat) {out L:List (List Cel)} {s s':RS} {f:Bool},rsB s->s.isSome=true\/0<k->qe2 k out s f=(L,s',true)->
  ∃M ys zs,f=true/\L=out++M/\s=some ys/\s'=some zs/\ys=qbP M++zs/\M.length=k/\ ∀l∈M,0<l.length/\l.length<=60/\qb1 l=true/\ ∀c∈l,cOk c
 |0,out,L,s,s',f,hs,h0,h=>by
  simp only[qe2,Prod.mk.injEq]at h
  obtain⟨rfl,rfl,rfl⟩:=h
  obtain⟨ys,rfl⟩:=Option.isSome_iff_exists.1 (h0.resolve_right (by decide))
  exact⟨[],ys,ys,rfl,(List.append_nil _).symm,rfl,rfl,rfl,rfl,fun l hl=>by cases hl⟩
 |k+1,out,L,s,s',f,hs,h0,h=>by
  obtain⟨n,s1,hN⟩:∃a b,qM 61 s=(a,b):=⟨_,_,rfl⟩
  have hb:=qE (lim:=61) hs
  rw[qe2,hN]at h
  rw[hN]at hb
  dsimp only at h hb
  obtain⟨L1,s2,f2,hL⟩:∃a b c,qaj n 1 [] s1 f=(a,b,c):=⟨_,_,_,rfl⟩
  have hb2:=qbB (W:=n) 1 (out:=[]) (f:=f) hb
  rw[hL]at h hb2
  dsimp only at h hb2
  split at h
  ·rename_i hf
   rw[Bool.and_eq_true,decide_eq_true_eq]at hf
   obtain⟨rfl,hw⟩:=hf
   obtain⟨M1,y1,z1,f1,q1,rfl,rfl,q4,q5,q6⟩:=qcZ hw 1 hb (.inr (by decide)) hL
   obtain⟨ys,e1,e2,e3,e4,e5⟩:=qa5 hs hN
   obtain⟨l,rfl⟩:∃l,M1=[l]:=by
    match M1,q5 with
    |[l],_=>exact⟨l,rfl⟩
   have hl:=q6 l (List.mem_singleton.2 rfl)
   have e6:=e5 (by decide)
   obtain⟨M,y2,z2,_,p1,p2,p3,p4,p5,p6⟩:=qhU k hb2 (.inl rfl) h
   obtain rfl:=Option.some.inj p2
   refine⟨l::M,ys,z2,f1,by rw[p1,q1];simp,e1,p3,?_,by simp[p5],fun m hm=>?_⟩
   ·rw[e2,q4,p4]
    unfold qbP
    rw[show n.toNat=l.length by have:=hl.1;omega]
    simp
   ·rcases List.mem_cons.1 hm with rfl|hm
    ·exact⟨by have:=hl.1;omega,by have:=hl.1;omega,hl.2⟩
    ·exact p6 m hm
  ·simp at h
theorem qnd {s s':RS}{L:List (List Cel)}{f:Bool}(hs:rsB s)(h:qfN s f=(L,s',true))(hz:s'.isSome=true):∃ys zs,f=true/\s=some ys/\s'=some zs/\ys=qS L.length++(qbP L++zs)/\L.length<=20/\ ∀l∈L,0<l.length/\l.length<=60/\qb1 l=true/\ ∀c∈l,cOk c:=by
 obtain⟨n,s1,hN⟩:∃a b,qM 21 s=(a,b):=⟨_,_,rfl⟩
 have hb:=qE (lim:=21) hs
 unfold qfN at h
 rw[hN]at h hb
 dsimp only at h hb
 have h0:s1.isSome=true\/0<n.toNat:=by
  rcases Nat.eq_zero_or_pos n.toNat with h1|h1
  ·rw[h1]at h
   simp only[qe2,Prod.mk.injEq]at h
   rw[h.2.1];exact .inl hz
  ·exact .inr h1
 obtain⟨M,y1,z1,f1,q1,rfl,q3,q4,q5,q6⟩:=qhU _ hb h0 h
 obtain⟨ys,e1,e2,e3,e4,e5⟩:=qa5 hs hN
 have e6:=e5 (by decide)
 rw[List.nil_append]at q1
 subst q1
 exact⟨ys,z1,f1,e1,q3,by rw[e2,q4,q5],by omega,q6⟩
structure uR (u:US):Prop where
 n:0<=u.n/\u.n<=3
 b0:u.n<=0->u.b0=0
 b1:u.n<=1->u.b1=0
 b2:u.n<=2->u.b2=0
 f:u.n=0\/qbO u.pend=false
theorem sz_all:∀c,c<256->qe .and .u8 (firstN c) 7<=4:=by decide+kernel
theorem uR0:uR u0:=⟨by decide,fun _=>rfl,fun _=>rfl,fun _=>rfl,.inl rfl⟩
theorem qoU {l:List Int}(h:∀x∈l,0<=x/\x<=255):∀k,¬(0<(itU l k).2.length/\qbO (itU l k).2=true)\/(itU l k).2.length+k<=l.length
 |0=> .inr (by show l.length+0<=l.length;omega)
 |k+1=>by
  by_cases hc:0<(itU l k).2.length/\qbO (itU l k).2=true
  ·have ih:=(qoU h k).resolve_left (fun h=>h hc)
   right
   have:=qkO (qdi h k) hc.1
   rw[qhC hc.1 hc.2]
   simp only[List.length_drop]
   omega
  ·left
   have:=qir hc 1
   rw[this];exact hc
theorem qoV {u:US}(h:u.ok){c:Int}(hc:0<=c/\c<=255):((itU (u.pend++[c]) 4).2=[]\/qbO (itU (u.pend++[c]) 4).2=false)/\(itU (u.pend++[c]) 4).2.length<=3:=by
 have hl:∀x∈u.pend++[c],0<=x/\x<=255:=fun x hx=>by
  rcases List.mem_append.1 hx with hx|hx
  ·exact h.pend x hx
  ·rw[List.mem_singleton.1 hx];exact hc
 have hn:(u.pend++[c]).length<=4:=by rw[List.length_append,h.len];have:=h.n;simp only[List.length_cons,List.length_nil];omega
 have h1:(itU (u.pend++[c]) 4).2=[]\/qbO (itU (u.pend++[c]) 4).2=false:=by
  rcases qoU hl 4 with h4|h4
  ·rcases Nat.eq_zero_or_pos (itU (u.pend++[c]) 4).2.length with h0|h0
   ·exact .inl (List.eq_nil_of_length_eq_zero h0)
   ·exact .inr (by cases e:qbO (itU (u.pend++[c]) 4).2 with
     |false=>rfl
     |true=>exact absurd ⟨h0,e⟩ h4)
  ·exact .inl (List.eq_nil_of_length_eq_zero (by omega))
 refine⟨h1,?_⟩
 rcases h1 with h1|h1
 ·rw[h1];exact Nat.zero_le _
 ·have hb:=qdi hl 4
  have hs:=sz_all ((itU (u.pend++[c]) 4).2.getD 0 0).toNat (by have:=qaK hb (by decide) 0;omega)
  unfold qbO at h1
  split at h1
  ·rename_i h0;omega
  ·split at h1
   ·cases h1
   ·rename_i h0
    have hs':szI (itU (u.pend++[c]) 4).2<=4:=hs
    omega
theorem qlX {l:List Int}(h:l.length<=3):(mkU l).pend=l:=by
 unfold mkU US.pend
 simp only[Int.toNat_natCast]
 match l,h with
 |[],_=>rfl
 |[a],_=>rfl
 |[a,b],_=>rfl
 |[a,b,c],_=>rfl
theorem qoW {u:US}(h:u.ok){c:Int}(hc:0<=c/\c<=255):uR (qda u c).1:=by
 obtain⟨h1,h2⟩:=qoV h hc
 show uR (mkU ((itU (u.pend++[c]) 4).2.take 3))
 rw[List.take_of_length_le h2]
 generalize (itU (u.pend++[c]) 4).2=r at h1 h2
 have hg:∀i,r.length<=i->r.getD i 0=0:=fun i hi=>by rw[List.getD,List.getElem?_eq_none hi];rfl
 refine⟨⟨Int.natCast_nonneg _,by show((r.length:Nat):Int)<=3;omega⟩,fun e=>hg 0 ?_,fun e=>hg 1 ?_,fun e=>hg 2 ?_,?_⟩
 ·have e:((r.length:Nat):Int)<=0:=e;omega
 ·have e:((r.length:Nat):Int)<=1:=e;omega
 ·have e:((r.length:Nat):Int)<=2:=e;omega
 ·rw[qlX h2]
  rcases h1 with rfl|h1
  ·exact .inl rfl
  ·exact .inr h1
def lowM (c:Int):Prop:=32<=c/\c<48
def wideM (c:Int):Prop:=lowM c\/(60<=c/\c<=63)
def allB (f:Int->Prop)(s:ByteArray):Prop:= ∀i:Nat,i<s.size->f (bt s (i:Int))
theorem qg5 (f:Int->Prop):allB f ByteArray.empty:=fun i hi=>by have:i<0:=hi;omega
theorem qne {c:Int}(hc:0<=c/\c<=255):(qf [c]).size=1/\bt (qf [c]) 0=c:=by
 refine⟨rfl,?_⟩
 have:∀k:Nat,k<256->bt (qf [(k:Int)]) 0=(k:Int):=by decide+kernel
 have:=this c.toNat (by omega)
 rwa[show((c.toNat:Nat):Int)=c by omega]at this
theorem qgD {f:Int->Prop}{s:ByteArray}(h:allB f s){c:Int}(hc:0<=c/\c<=255)(hf:f c):allB f (s++qf [c]):=fun i hi=>by
 have hb:=qne hc
 rw[ByteArray.size_append,hb.1]at hi
 unfold bt
 rw[dif_pos (show(i:Int).toNat<(s++qf [c]).size by rw[ByteArray.size_append,hb.1];omega)]
 simp only[Int.toNat_natCast]
 by_cases h2:i<s.size
 ·have:=h i h2
  unfold bt at this
  rw[dif_pos (show(i:Int).toNat<s.size by omega)]at this
  simp only[Int.toNat_natCast]at this
  rw[ByteArray.getElem_append_left h2];exact this
 ·have e:i=s.size:=by omega
  subst e
  rw[ByteArray.getElem_append_right (Nat.le_refl _)]
  have h3:=hb.2
  unfold bt at h3
  rw[dif_pos (show(0:Int).toNat<(qf [c]).size by rw[hb.1];decide)]at h3
  simp only[Nat.sub_self]
  have h4:(((qf [c])[0]'(by rw[hb.1];decide)).toNat:Int)=c:=h3
  rw[h4];exact hf
structure PRight (p:PS):Prop where
 st:0<=p.state/\p.state<=7
 wi:p.state≠7->p.within=0
 wc:p.state=7->p.within=5\/p.within=6
 u:p.state≠0->p.utf=u0
 u':uR p.utf
 m:p.state≠2->p.state≠3->p.state≠4->p.marks=ByteArray.empty
 n:p.state≠3->p.state≠4->p.params=[]
 t:p.state<=4->p.text=ByteArray.empty
 m2:p.state=2->1<=p.marks.size/\allB lowM p.marks
 m3:p.state=3\/p.state=4->allB wideM p.marks
 t5:allB (fun c=>32<=c) p.text
theorem qeQ {s:Int}(h:s=0\/s=1\/s=3\/s=5\/s=6):PRight (atP s):=by
 refine⟨by show 0<=s/\s<=7;omega,fun _=>rfl,fun e=>?_,fun _=>rfl,uR0,fun _ _ _=>rfl,fun _ _=>rfl,fun _=>rfl,fun e=>?_,fun _=>qg5 _,qg5 _⟩
 ·have e:s=7:=e;omega
 ·have e:s=2:=e;omega
theorem qoX {p:PS}(h:PRight p)(h0:p.state=0){u:US}(hu:uR u):PRight {p with utf:=u}:={h with u:=fun e=>absurd h0 e,u':=hu}
theorem qaS {c:Prop}[Decidable c]{a b:PS×List Ac}(h1:c->PRight a.1)(h2:¬c->PRight b.1):PRight (if c then a else b).1:=by
 split
 ·exact h1 ‹_›
 ·exact h2 ‹_›
theorem qoY {p:PS}(h:PRight p)(hl:p.lim)(h0:p.state=0){c:Int}(hc:0<=c/\c<=255):PRight (qP p c).1:=by
 unfold qP
 refine qaS (fun _=>?_) fun _=>qoX h h0 (qoW hl.u hc)
 refine qaS (fun _=>qeQ (.inr (.inl rfl))) fun _=>?_
 exact qaS (fun _=>qoX h h0 uR0) fun _=>qoX h h0 (qoW qkR hc)
theorem qoZ {p:PS}(h:PRight p)(h5:p.state=5\/p.state=6){c:Int}(hc:0<=c/\c<=255):PRight (qO p c).1:=by
 unfold qO
 refine qaS (fun _=>?_) fun _=>?_
 ·exact⟨(by show(0:Int)<=7/\(7:Int)<=7;decide),fun e=>absurd rfl e,fun _=>h5,fun _=>h.u (by omega),h.u',fun _ _ _=>h.m (by omega) (by omega) (by omega),fun _ _=>h.n (by omega) (by omega),fun e=>absurd e (by show¬(7:Int)<=4;decide),fun e=>absurd e (by show¬(7:Int)=2;decide),fun e=>absurd e (by show¬((7:Int)=3\/(7:Int)=4);decide),h.t5⟩
 refine qaS (fun _=>qeQ (.inl rfl)) fun _=>?_
 refine qaS (fun _=>qeQ (.inl rfl)) fun _=>?_
 refine qaS (fun hx=>?_) fun _=>h
 exact{h with t:=fun e=>absurd e (by show¬p.state<=4;omega),t5:=qgD h.t5 hc hx.1}
theorem qp0 {p:PS}(h:PRight p)(h1:p.state=1\/p.state=2){c:Int}(hc:32<=c/\c<=255):PRight (qr p c).1:=by
 unfold qr
 have hall:allB lowM p.marks:=by
  rcases h1 with e|e
  ·rw[h.m (by omega) (by omega) (by omega)];exact qg5 _
  ·exact(h.m2 e).2
 have h2:p.state=2->1<=p.marks.size:=fun e=>(h.m2 e).1
 refine qaS (fun h48=>?_) fun _=>?_
 ·show PRight (if _ then _ else _)
  split
  ·exact⟨(by show(0:Int)<=2/\(2:Int)<=7;decide),fun _=>h.wi (by omega),fun e=>absurd e (by show¬(2:Int)=7;decide),fun _=>h.u (by omega),h.u',fun e=>absurd rfl e,fun _ _=>h.n (by omega) (by omega),fun _=>h.t (by omega),fun _=>⟨by show 1<=(p.marks++qf [c]).size;rw[ByteArray.size_append,qb0];omega,qgD hall ⟨by omega,hc.2⟩ ⟨hc.1,h48⟩⟩,fun e=>absurd e (by show¬((2:Int)=3\/(2:Int)=4);decide),h.t5⟩
  ·rename_i hsz
   exact⟨(by show(0:Int)<=2/\(2:Int)<=7;decide),fun _=>h.wi (by omega),fun e=>absurd e (by show¬(2:Int)=7;decide),fun _=>h.u (by omega),h.u',fun e=>absurd rfl e,fun _ _=>h.n (by omega) (by omega),fun _=>h.t (by omega),fun _=>⟨by show 1<=p.marks.size;omega,hall⟩,fun e=>absurd e (by show¬((2:Int)=3\/(2:Int)=4);decide),h.t5⟩
 refine qaS (fun _=>qeQ (.inr (.inr (.inl rfl)))) fun _=>?_
 refine qaS (fun _=>qeQ (.inr (.inr (.inr (.inl rfl))))) fun _=>?_
 refine qaS (fun _=>qeQ (.inr (.inr (.inr (.inr rfl))))) fun _=>?_
 exact qeQ (.inl rfl)
theorem pr_csi {p:PS}(h:PRight p)(h3:p.state=3\/p.state=4){c:Int}(hc:32<=c/\c<=255):PRight (qby p c).1:=by
 have hp:∀l,PRight {p with params:=l}:=fun l=>{h with n:=fun e e'=>absurd h3 (by show¬(p.state=3\/p.state=4);exact fun h=>h.elim e e')}
 unfold qby
 refine qaS (fun _=>hp _) fun hd=>?_
 refine qaS (fun _=>?_) fun hs=>?_
 ·show PRight (if _ then _ else _)
  split<;>exact hp _
 refine qaS (fun _=>qaS (fun _=>qeQ (.inl rfl)) fun _=>qeQ (.inl rfl)) fun h64=>?_
 refine qaS (fun _=>?_) fun hm=>?_
 ·exact⟨(by show(0:Int)<=4/\(4:Int)<=7;decide),fun _=>h.wi (by omega),fun e=>absurd e (by show¬(4:Int)=7;decide),fun _=>h.u (by omega),h.u',fun _ _ e=>absurd rfl e,fun _ e=>absurd rfl e,fun _=>h.t (by omega),fun e=>absurd e (by show¬(4:Int)=2;decide),fun _=>h.m3 h3,h.t5⟩
 ·exact{h with m:=fun e e' e''=>absurd h3 (by show¬(p.state=3\/p.state=4);exact fun h=>h.elim e' e''),m2:=fun e=>(by have e:p.state=2:=e;omega),m3:=fun _=>qgD (h.m3 h3) ⟨by omega,hc.2⟩ (by unfold wideM lowM;omega)}
theorem qlY {p:PS}(h:PRight p)(hl:p.lim)(h7:p.state≠7){c:Int}(hc:0<=c/\c<=255):PRight (qaR p c).1:=by
 have hst:=h.st
 unfold qaR
 refine qaS (fun h0=>qoY h hl h0 hc) fun h0=>?_
 refine qaS (fun h5=>qoZ h (by omega) hc) fun h5=>?_
 refine qaS (fun _=>qeQ (.inl rfl)) fun _=>?_
 refine qaS (fun _=>qeQ (.inr (.inl rfl))) fun _=>?_
 refine qaS (fun _=>h) fun h32=>?_
 refine qaS (fun _=>h) fun _=>?_
 refine qaS (fun h3=>pr_csi h h3 ⟨by omega,hc.2⟩) fun h3=>?_
 exact qp0 h (by omega) ⟨by omega,hc.2⟩
theorem pr_feed {p:PS}(h:PRight p)(hl:p.lim){c:Int}(hc:0<=c/\c<=255):PRight (qbh p c).1:=by
 unfold qbh
 refine qaS (fun h7=>?_) fun h7=>qlY h hl h7 hc
 exact qaS (fun _=>qeQ (.inl rfl)) fun _=>qlY (qeQ (.inr (.inl rfl))) (qbu 1) (by show(1:Int)≠7;decide) hc
theorem qk4 {T:TS}(h:PRight T.parser)(hl:T.parser.lim)(s:ByteArray):∀k,PRight (qdl T s k).parser
 |0=>h
 |k+1=>by rw[qdl,qoC];exact pr_feed (qk4 h hl s k) (qdI hl s k) (qcW s _)
theorem pr_do {T:TS}(h:PRight T.parser)(hl:T.parser.lim)(x:Stp):PRight (doT T x).parser:=by
 unfold doT
 split
 ·exact qk4 h hl _ _
 ·rw[qeL];exact h
def qe3 (c:Cur):List Int:=qS c.x.toNat++(qS c.y.toNat++(qS (qa8 [c.late])++qS (qbA c.sty)))
def qj7 (W H:Int)(s:RS):Cur×Bool×RS:=
  (⟨(qM W s).1,(qM H (qM W s).2).1,(qM 2 (qM H (qM W s).2).2).1==1,(qgB (qM 2 (qM H (qM W s).2).2).2).1⟩,
   (qgB (qM 2 (qM H (qM W s).2).2).2).2.1&&(!((qM 2 (qM H (qM W s).2).2).1==1)||(qM W s).1==W-1),(qgB (qM 2 (qM H (qM W s).2).2).2).2.2)
theorem qfn {W H:Int}{s s1 s2 s3 s4:RS}{x y l:Int}{t:Sty}{ok:Bool}(h1:qM W s=(x,s1))(h2:qM H s1=(y,s2))(h3:qM 2 s2=(l,s3))(h4:qgB s3=(t,ok,s4)):
    qj7 W H s=(⟨x,y,l==1,t⟩,ok&&(!(l==1)||x==W-1),s4):=by
  unfold qj7
  rw[h1]
  dsimp only
  rw[h2]
  dsimp only
  rw[h3]
  dsimp only
  rw[h4]
structure CurOk (W H:Int)(c:Cur):Prop where
  x:0<=c.x/\c.x<W
  y:0<=c.y/\c.y<H
  l:c.late=true->c.x=W-1
  s:qB c.sty=true
theorem qgE {W H:Int}{s:RS}(hs:rsB s):rsB (qj7 W H s).2.2:=qk2 (qE (qE (qE hs)))
theorem qgF {W H:Int}{s s':RS}{c:Cur}(hs:rsB s)(hW:0<W)(hH:0<H)(h:qj7 W H s=(c,true,s')):∃ys zs,s=some ys/\s'=some zs/\ys=qe3 c++zs/\CurOk W H c:=by
  obtain⟨x,s1,h1⟩:∃n s1,qM W s=(n,s1):=⟨_,_,rfl⟩
  obtain⟨y,s2,h2⟩:∃n s',qM H s1=(n,s'):=⟨_,_,rfl⟩
  obtain⟨l,s3,h3⟩:∃n s',qM 2 s2=(n,s'):=⟨_,_,rfl⟩
  obtain⟨t,ok,s4,h4⟩:∃n o s',qgB s3=(n,o,s'):=⟨_,_,_,rfl⟩
  rw[qfn h1 h2 h3 h4]at h
  simp only[Prod.mk.injEq,Bool.and_eq_true,Bool.or_eq_true,Bool.not_eq_true']at h
  obtain⟨rfl,⟨rfl,hl⟩,rfl⟩:=h
  have b1:=qE (lim:=W) hs;rw[h1]at b1
  have b2:=qE (lim:=H) b1;rw[h2]at b2
  have b3:=qE (lim:=2) b2;rw[h3]at b3
  obtain⟨y4,z4,e4,e4',e4'',hst⟩:=qk1 b3 h4
  subst e4 e4'
  obtain⟨y3,e3,e3',p3,p3',p3''⟩:=qa5 b2 h3
  subst e3
  obtain⟨y2,e2,e2',p2,p2',p2''⟩:=qa5 b1 h2
  subst e2
  obtain⟨y1,e1,e1',p1,p1',p1''⟩:=qa5 hs h1
  have q3:=p3'' (by decide)
  refine⟨y1,z4,e1,rfl,?_,⟨⟨p1,p1'' hW⟩,⟨p2,p2'' hH⟩,fun hh=>?_,hst⟩⟩
  · unfold qe3
    have:qa8 [l==1]=l.toNat:=by
      have:l=0\/l=1:=by omega
      rcases this with rfl|rfl<;>rfl
    dsimp only
    rw[this,e1',e2',e3',e4'']
    simp only[List.append_assoc]
  · dsimp only at hh
    rcases hl with hl|hl
    · rw[hl]at hh;cases hh
    · exact beq_iff_eq.1 hl
def qk5 (c:Int):Bool:=decide (32<=c)&&decide (c<48)
def qbQ (c:Int):Bool:=qk5 c||(decide (60<=c)&&decide (c<=63))
def zb (s:ByteArray):Bool:=s.toList==ByteArray.empty.toList
def utB (u:US):Bool:=decide (0<=u.n)&&decide (u.n<=3)&&([u.b0,u.b1,u.b2].drop u.n.toNat).all (· ==0)&&(u.n==0|| !qbO u.pend)
def qcP (u:US):Bool:=u.b0==0&&u.b1==0&&u.b2==0&&u.n==0
def qgG (p:PS):Bool:=zb p.marks&&p.params.length==0
def qbe (lo:Nat)(f:Int->Bool)(m:ByteArray):Bool:=decide (lo<=m.size)&&decide (m.size<=2)&&(List.range m.size).all fun i=>f (bt m (i:Int))
def qgH (l:List Int):Bool:=l.all (fun n=>decide (0<=n)&&decide (n<=9999))&&decide (l.length<=8)
def qdt (x:ByteArray):Bool:=((List.range x.size).all fun i=>decide (32<=bt x (i:Int)))&&decide (x.size<=40)
def qG (p:PS):Bool:=
  if(p.state≠7/\p.within≠0)\/(p.state≠0/\qcP p.utf=false)then false
  else if p.state=0 then utB p.utf&&qgG p&&zb p.text
  else if p.state=1 then qgG p&&zb p.text
  else if p.state=2 then qbe 1 qk5 p.marks&&p.params.length==0&&zb p.text
  else if p.state=3\/p.state=4 then qbe 0 qbQ p.marks&&qgH p.params&&zb p.text
  else if p.state=7 then(if p.within≠5/\p.within≠6 then false else qgG p&&qdt p.text)
  else if p.state=5\/p.state=6 then qgG p&&qdt p.text
  else false
def qcf (p:PS):List Int:=qS p.state.toNat++(qS p.within.toNat++(qbp (qf p.utf.pend)++(qbp p.marks++(qS p.params.length++(p.params.flatMap (fun n=>qS n.toNat)++qbp p.text)))))
def qeR:Nat->List Int->RS->List Int×RS
  |0,l,s=>(l,s)
  |k+1,l,s=>qeR k (l++[(qM 10000 s).1]) (qM 10000 s).2
theorem qhV:∀(k:Nat) {l:List Int} {s:RS},rsB s->rsB (qeR k l s).2
  |0,_,_,h=>h
  |k+1,l,s,h=>qhV k (qE h)
theorem qhW:∀(k:Nat) {l L:List Int} {s:RS} {zs:List Int},rsB s->qeR k l s=(L,some zs)-> ∃M ys,L=l++M/\s=some ys/\ys=M.flatMap (fun n=>qS n.toNat)++zs/\M.length=k/\ ∀n∈M,0<=n/\n<=9999
  |0,l,L,s,zs,hs,h=>by
    simp only[qeR,Prod.mk.injEq]at h
    obtain⟨rfl,rfl⟩:=h
    exact⟨[],zs,(List.append_nil _).symm,rfl,rfl,rfl,fun n hn=>by cases hn⟩
  |k+1,l,L,s,zs,hs,h=>by
    obtain⟨n,s1,hN⟩:∃a b,qM 10000 s=(a,b):=⟨_,_,rfl⟩
    have hb:=qE (lim:=10000) hs
    rw[qeR,hN]at h
    rw[hN]at hb
    dsimp only at h hb
    obtain⟨M,ys,q1,rfl,q3,q4,q5⟩:=qhW k hb h
    obtain⟨us,e1,e2,e3,e4,e5⟩:=qa5 hs hN
    have e6:=e5 (by decide)
    refine⟨n::M,us,by rw[q1];simp,e1,by rw[e2,q3];simp,by simp[q4],fun x hx=>?_⟩
    rcases List.mem_cons.1 hx with rfl|hx
    · exact⟨e3,by omega⟩
    · exact q5 x hx
def qiJ (s:RS)(f:Bool):PS×RS×Bool:=
  let st:=qM 8 s
  let wi:=qM 8 st.2
  let u:=qb4 3 wi.2
  let m:=qb4 2 u.2
  let n:=qM 9 m.2
  let q:=qeR n.1.toNat [] n.2
  let x:=qb4 40 q.2
  (⟨st.1,mkU (qaW u.1),m.1,q.1,x.1,wi.1⟩,x.2,f&&qG ⟨st.1,mkU (qaW u.1),m.1,q.1,x.1,wi.1⟩)
theorem qg6 {s s1 s2 s3 s4 s5 s6 s7:RS}{f:Bool}{st wi n:Int}{u m x:ByteArray}{q:List Int}(h1:qM 8 s=(st,s1))(h2:qM 8 s1=(wi,s2))(h3:qb4 3 s2=(u,s3))(h4:qb4 2 s3=(m,s4))(h5:qM 9 s4=(n,s5))(h6:qeR n.toNat [] s5=(q,s6))(h7:qb4 40 s6=(x,s7)):
    qiJ s f=(⟨st,mkU (qaW u),m,q,x,wi⟩,s7,f&&qG ⟨st,mkU (qaW u),m,q,x,wi⟩):=by
  unfold qiJ
  rw[h1]
  dsimp only
  rw[h2]
  dsimp only
  rw[h3]
  dsimp only
  rw[h4]
  dsimp only
  rw[h5]
  dsimp only
  rw[h6]
  dsimp only
  rw[h7]
structure ParsOk (p:PS):Prop where
  st:0<=p.state/\p.state<8
  wi:0<=p.within/\p.within<8
  u:p.utf.ok
  un:(p.utf.n).toNat=p.utf.pend.length/\p.utf.pend.length<=3
  m:p.marks.size<=2
  n:p.params.length<=8
  b:∀x∈p.params,0<=x/\x<=9999
  t:p.text.size<=40
  r:qG p=true
theorem qnf {s:RS}{f:Bool}{p:PS}{zs:List Int}(hs:rsB s)(h:qiJ s f=(p,some zs,true)):∃ys,s=some ys/\ys=qcf p++zs/\f=true/\ParsOk p:=by
  obtain⟨st,s1,h1⟩:∃n s1,qM 8 s=(n,s1):=⟨_,_,rfl⟩
  obtain⟨wi,s2,h2⟩:∃n s',qM 8 s1=(n,s'):=⟨_,_,rfl⟩
  obtain⟨u,s3,h3⟩:∃n s',qb4 3 s2=(n,s'):=⟨_,_,rfl⟩
  obtain⟨m,s4,h4⟩:∃n s',qb4 2 s3=(n,s'):=⟨_,_,rfl⟩
  obtain⟨n,s5,h5⟩:∃n s',qM 9 s4=(n,s'):=⟨_,_,rfl⟩
  obtain⟨q,s6,h6⟩:∃q s',qeR n.toNat [] s5=(q,s'):=⟨_,_,rfl⟩
  obtain⟨x,s7,h7⟩:∃n s',qb4 40 s6=(n,s'):=⟨_,_,rfl⟩
  rw[qg6 h1 h2 h3 h4 h5 h6 h7]at h
  simp only[Prod.mk.injEq,Bool.and_eq_true]at h
  obtain⟨rfl,rfl,rfl,hr⟩:=h
  have b1:=qE (lim:=8) hs;rw[h1]at b1
  have b2:=qE (lim:=8) b1;rw[h2]at b2
  have b3:=qdJ (most:=3) b2;rw[h3]at b3
  have b4:=qdJ (most:=2) b3;rw[h4]at b4
  have b5:=qE (lim:=9) b4;rw[h5]at b5
  have b6:=qhV n.toNat (l:=[]) b5;rw[h6]at b6
  obtain⟨y7,e7,e7',p7⟩:=qcN b6 h7 (by decide)
  subst e7
  obtain⟨M,y6,e6,e6',e6'',p6,p6'⟩:=qhW _ b5 h6
  rw[List.nil_append]at e6
  subst e6 e6'
  obtain⟨y5,e5,e5',p5,_,p5'⟩:=qa5 b4 h5
  subst e5
  obtain⟨y4,e4,e4',p4⟩:=qcN b3 h4 (by decide)
  subst e4
  obtain⟨y3,e3,e3',p3⟩:=qcN b2 h3 (by decide)
  subst e3
  obtain⟨y2,e2,e2',p2,_,p2'⟩:=qa5 b1 h2
  subst e2
  obtain⟨y1,e1,e1',p1,_,p1'⟩:=qa5 hs h1
  have hl3:(qaW u).length<=3:=by rw[qeN];omega
  have hpe:=qlX hl3
  have hub:qf (qaW u)=u:=by
    have:(qf (qaW u)).data.toList=u.data.toList:=by
      rw[qcr]
      unfold qaW
      rw[List.map_map]
      refine(List.map_congr_left fun b _=>?_).trans (List.map_id _)
      show UInt8.ofNat ((b.toNat:Int).toNat)=b
      rw[Int.toNat_natCast];exact UInt8.ofNat_toNat
    cases hA:qf (qaW u)with
    |mk a=>
      rw[hA]at this
      cases u with
      |mk b=>exact congrArg ByteArray.mk (Array.toList_inj.1 this)
  have q5:=p5' (by decide)
  refine⟨y1,e1,?_,rfl,⟨⟨p1,p1' (by decide)⟩,⟨p2,p2' (by decide)⟩,qom (qgA u) hl3,?_,by dsimp only;omega,by dsimp only;omega,p6',by dsimp only;omega,hr⟩⟩
  · unfold qcf
    dsimp only
    rw[hpe,hub,e1',e2',e3',e4',e5',e6'',e7',<-p6]
    simp only[List.append_assoc]
  · dsimp only
    rw[hpe]
    exact⟨by show(((qaW u).length:Nat):Int).toNat=_;omega,hl3⟩
def qbz (T:TS):List Bool:=[T.wrap,T.origin,T.insert,T.hidden,T.alt,T.draw0,T.draw1,T.shift]
def qN (T:TS):List Int:=qS T.grid.w.toNat++(qS T.grid.h.toNat++(qS T.top.toNat++(qS T.bot.toNat++(qS (qa8 (qbz T))++(qS (qah T.tabs 60)++(qe3 T.cursor++(qe3 T.saved++(qe3 T.away++
  (T.grid.lines.flatMap qa2++(T.other.lines.flatMap qa2++(qS T.back.length++(qbP T.back++(qbp T.title++(qbp T.reply++qcf T.parser))))))))))))))
def qfO (tb k:Nat)(i:Nat):Bool:=if i<k then qeg tb i else qis 7 i
def qfP (w h top bot n tb:Int):TS:={startT zeroT w h with top:=top,bot:=bot,wrap:=qeg n.toNat 0,origin:=qeg n.toNat 1,insert:=qeg n.toNat 2,hidden:=qeg n.toNat 3,alt:=qeg n.toNat 4,draw0:=qeg n.toNat 5,draw1:=qeg n.toNat 6,shift:=qeg n.toNat 7,tabs:=qfO tb.toNat 60}
def qk6 (T:TS)(W H:Int)(s:RS):Option TS:=
  let a:=qj7 W H s
  let b:=qj7 W H a.2.2
  let c:=qj7 W H b.2.2
  let d:=qaj W H.toNat [] c.2.2 ((a.2.1&&b.2.1)&&c.2.1)
  let e:=qaj W H.toNat [] d.2.1 d.2.2
  let k:=qfN e.2.1 e.2.2
  let t:=qb4 40 k.2.1
  let r:=qb4 400 t.2
  let p:=qiJ r.2 k.2.2
  if p.2.2=true/\p.2.1=some []then some {T with cursor:=a.1,saved:=b.1,away:=c.1,grid:=⟨W,H,d.1⟩,other:=⟨W,H,e.1⟩,back:=k.1,title:=t.1,reply:=r.1,parser:=p.1}else none
def qiK (s:RS):Option TS×RS:=
  let w:=qM 61 s
  let h:=qM 61 w.2
  let a:=qM (h.1+1) h.2
  let b:=qM (h.1+1) a.2
  let n:=qM 256 b.2
  let t:=qM 1152921504606846976 n.2
  if t.2.isSome=false\/w.1<1\/h.1<1\/b.1<=a.1 then(none,t.2)else(some (qfP w.1 h.1 a.1 b.1 n.1 t.1),t.2)
theorem qd0 {s s1 s2 s3 s4 s5 s6:RS}{w v a b n t:Int}(h1:qM 61 s=(w,s1))(h2:qM 61 s1=(v,s2))(h3:qM (v+1) s2=(a,s3))(h4:qM (v+1) s3=(b,s4))(h5:qM 256 s4=(n,s5))(h6:qM 1152921504606846976 s5=(t,s6)):
    qiK s=if s6.isSome=false\/w<1\/v<1\/b<=a then(none,s6)else(some (qfP w v a b n t),s6):=by
  unfold qiK
  rw[h1]
  dsimp only
  rw[h2]
  dsimp only
  rw[h3]
  dsimp only
  rw[h4]
  dsimp only
  rw[h5]
  dsimp only
  rw[h6]
def qlZ (s:RS):Option TS:=match qiK s with
  |(none,_)=>none
  |(some T,s1)=>qk6 T T.grid.w T.grid.h s1
structure DecOk (T:TS):Prop where
  w:1<=T.grid.w/\T.grid.w<=60
  h:1<=T.grid.h/\T.grid.h<=60
  o:T.other.w=T.grid.w/\T.other.h=T.grid.h
  t:0<=T.top/\T.top<T.bot/\T.bot<=T.grid.h
  c:CurOk T.grid.w T.grid.h T.cursor
  s:CurOk T.grid.w T.grid.h T.saved
  a:CurOk T.grid.w T.grid.h T.away
  g:T.grid.lines.length=T.grid.h.toNat/\ ∀l∈T.grid.lines,(l.length:Int)=T.grid.w/\qb1 l=true/\ ∀c∈l,cOk c
  g2:T.other.lines.length=T.grid.h.toNat/\ ∀l∈T.other.lines,(l.length:Int)=T.grid.w/\qb1 l=true/\ ∀c∈l,cOk c
  k:T.back.length<=20/\ ∀l∈T.back,0<l.length/\l.length<=60/\qb1 l=true/\ ∀c∈l,cOk c
  ti:T.title.size<=40
  r:T.reply.size<=400
  p:ParsOk T.parser
theorem qng {T T':TS}{W H:Int}{s:RS}(hs:rsB s)(hW:1<=W/\W<=60)(hH:1<=H/\H<=60)(ht:0<=T.top/\T.top<T.bot/\T.bot<=H)(h:qk6 T W H s=some T'):∃ys,s=some ys/\
    ys=qe3 T'.cursor++(qe3 T'.saved++(qe3 T'.away++(T'.grid.lines.flatMap qa2++(T'.other.lines.flatMap qa2++(qS T'.back.length++(qbP T'.back++(qbp T'.title++(qbp T'.reply++qcf T'.parser))))))))/\DecOk T'/\T'.grid.w=W/\T'.grid.h=H/\T'.top=T.top/\T'.bot=T.bot/\qbz T'=qbz T/\T'.tabs=T.tabs:=by
  obtain⟨a,ha,s1,h1⟩:∃a o s1,qj7 W H s=(a,o,s1):=⟨_,_,_,rfl⟩
  obtain⟨b,hb,s2,h2⟩:∃a o s',qj7 W H s1=(a,o,s'):=⟨_,_,_,rfl⟩
  obtain⟨c,hc,s3,h3⟩:∃a o s',qj7 W H s2=(a,o,s'):=⟨_,_,_,rfl⟩
  obtain⟨d,s4,f4,h4⟩:∃d s' f,qaj W H.toNat [] s3 ((ha&&hb)&&hc)=(d,s',f):=⟨_,_,_,rfl⟩
  obtain⟨e,s5,f5,h5⟩:∃d s' f,qaj W H.toNat [] s4 f4=(d,s',f):=⟨_,_,_,rfl⟩
  obtain⟨k,s6,f6,h6⟩:∃d s' f,qfN s5 f5=(d,s',f):=⟨_,_,_,rfl⟩
  obtain⟨t,s7,h7⟩:∃d s',qb4 40 s6=(d,s'):=⟨_,_,rfl⟩
  obtain⟨r,s8,h8⟩:∃d s',qb4 400 s7=(d,s'):=⟨_,_,rfl⟩
  obtain⟨p,s9,f9,h9⟩:∃d s' f,qiJ s8 f6=(d,s',f):=⟨_,_,_,rfl⟩
  unfold qk6 at h
  rw[h1]at h
  dsimp only at h
  rw[h2]at h
  dsimp only at h
  rw[h3]at h
  dsimp only at h
  rw[h4]at h
  dsimp only at h
  rw[h5]at h
  dsimp only at h
  rw[h6]at h
  dsimp only at h
  rw[h7]at h
  dsimp only at h
  rw[h8]at h
  dsimp only at h
  rw[h9]at h
  dsimp only at h
  split at h
  · rename_i hz
    obtain⟨rfl,rfl⟩:=hz
    obtain rfl:=Option.some.inj h
    have b1:=qgE (W:=W) (H:=H) hs;rw[h1]at b1
    have b2:=qgE (W:=W) (H:=H) b1;rw[h2]at b2
    have b3:=qgE (W:=W) (H:=H) b2;rw[h3]at b3
    have b4:=qbB (W:=W) H.toNat (out:=[]) (f:=(ha&&hb)&&hc) b3;rw[h4]at b4
    have b5:=qbB (W:=W) H.toNat (out:=[]) (f:=f4) b4;rw[h5]at b5
    have b6:rsB s6:=by have:=qhT (qM 21 s5).1.toNat (out:=[]) (f:=f5) (qE (lim:=21) b5);have e:qe2 (qM 21 s5).1.toNat [] (qM 21 s5).2 f5=(k,s6,f6):=h6;rw[e]at this;exact this
    have b7:=qdJ (most:=40) b6;rw[h7]at b7
    have b8:=qdJ (most:=400) b7;rw[h8]at b8
    obtain⟨y9,e9,e9',rfl,hp⟩:=qnf b8 h9
    subst e9
    obtain⟨y8,e8,e8',hr⟩:=qcN b7 h8 (by decide)
    subst e8
    obtain⟨y7,e7,e7',hti⟩:=qcN b6 h7 (by decide)
    subst e7
    obtain⟨y6,z6,f6',e6,e6',e6'',hk1,hk2⟩:=qnd b5 h6 rfl
    subst f6' e6
    obtain rfl:=Option.some.inj e6'
    obtain⟨M2,y5,z5,f5',q2,e5,e5',e5'',hg2,hg2'⟩:=qcZ (by omega) _ b4 (.inr (by omega)) h5
    rw[List.nil_append]at q2
    subst q2 f5' e5
    obtain rfl:=Option.some.inj e5'
    obtain⟨M1,y4,z4,f4',q1,e4,e4',e4'',hg1,hg1'⟩:=qcZ (by omega) _ b3 (.inr (by omega)) h4
    rw[List.nil_append]at q1
    subst q1 e4
    obtain rfl:=Option.some.inj e4'
    rw[Bool.and_eq_true,Bool.and_eq_true]at f4'
    obtain⟨⟨rfl,rfl⟩,rfl⟩:=f4'
    obtain⟨y3,z3,e3,e3',e3'',hc3⟩:=qgF b2 (by omega) (by omega) h3
    subst e3
    obtain rfl:=Option.some.inj e3'
    obtain⟨y2,z2,e2,e2',e2'',hc2⟩:=qgF b1 (by omega) (by omega) h2
    subst e2
    obtain rfl:=Option.some.inj e2'
    obtain⟨y1,z1,e1,e1',e1'',hc1⟩:=qgF hs (by omega) (by omega) h1
    obtain rfl:=Option.some.inj e1'
    refine⟨y1,e1,?_,⟨hW,hH,⟨rfl,rfl⟩,ht,hc1,hc2,hc3,⟨hg1,hg1'⟩,⟨hg2,hg2'⟩,⟨hk1,hk2⟩,by dsimp only;omega,by dsimp only;omega,hp⟩,rfl,rfl,rfl,rfl,rfl,rfl⟩
    dsimp only
    rw[e1'',e2'',e3'',e4'',e5'',e6'',e7',e8',e9',List.append_nil]
  · cases h
theorem qk7 {s:RS}{T:TS}(hs:rsB s)(h:qlZ s=some T):∃ys,s=some ys/\ys=qN T/\DecOk T:=by
  obtain⟨w,s1,h1⟩:∃d s',qM 61 s=(d,s'):=⟨_,_,rfl⟩
  obtain⟨v,s2,h2⟩:∃d s',qM 61 s1=(d,s'):=⟨_,_,rfl⟩
  obtain⟨a,s3,h3⟩:∃d s',qM (v+1) s2=(d,s'):=⟨_,_,rfl⟩
  obtain⟨b,s4,h4⟩:∃d s',qM (v+1) s3=(d,s'):=⟨_,_,rfl⟩
  obtain⟨n,s5,h5⟩:∃d s',qM 256 s4=(d,s'):=⟨_,_,rfl⟩
  obtain⟨t,s6,h6⟩:∃d s',qM 1152921504606846976 s5=(d,s'):=⟨_,_,rfl⟩
  unfold qlZ at h
  rw[qd0 h1 h2 h3 h4 h5 h6]at h
  split at h
  · cases h
  · rename_i T0 s7 e0
    split at e0
    · cases e0
    rename_i hc
    simp only[Prod.mk.injEq,Option.some.injEq]at e0
    obtain⟨rfl,rfl⟩:=e0
    simp only[not_or]at hc
    obtain⟨c1,c2,c3,c4⟩:=hc
    have b1:=qE (lim:=61) hs;rw[h1]at b1
    have b2:=qE (lim:=61) b1;rw[h2]at b2
    have b3:=qE (lim:=v+1) b2;rw[h3]at b3
    have b4:=qE (lim:=v+1) b3;rw[h4]at b4
    have b5:=qE (lim:=256) b4;rw[h5]at b5
    have b6:=qE (lim:=1152921504606846976) b5;rw[h6]at b6
    have w1:=qa6 (lim:=61) (s:=s);rw[h1]at w1
    have v1:=qa6 (lim:=61) (s:=s1);rw[h2]at v1
    have w2:=w1.2.2 (by decide)
    have v2:=v1.2.2 (by decide)
    dsimp only at w1 v1 w2 v2
    have a1:=qa6 (lim:=v+1) (s:=s2);rw[h3]at a1
    have bb1:=qa6 (lim:=v+1) (s:=s3);rw[h4]at bb1
    have a2:=a1.2.2 (by omega)
    have bb2:=bb1.2.2 (by omega)
    dsimp only at a1 bb1 a2 bb2
    have hsw:(qfP w v a b n t).grid.w=w:=by show qi w=w;unfold qi;omega
    have hsv:(qfP w v a b n t).grid.h=v:=by show qi v=v;unfold qi;omega
    rw[hsw,hsv]at h
    obtain⟨y6,e6,e6',hd,r1,r2,r3,r4,r5,r6⟩:=qng b6 (by omega) (by omega) (by show 0<=a/\a<b/\b<=v;omega) h
    subst e6
    obtain⟨y5,e5,e5',p5,_,p5'⟩:=qa5 b5 h6
    subst e5
    obtain⟨y4,e4,e4',p4,_,p4'⟩:=qa5 b4 h5
    subst e4
    obtain⟨y3,e3,e3',_⟩:=qa5 b3 h4
    subst e3
    obtain⟨y2,e2,e2',_⟩:=qa5 b2 h3
    subst e2
    obtain⟨y1,e1,e1',_⟩:=qa5 b1 h2
    subst e1
    obtain⟨y0,e0,e0',_⟩:=qa5 hs h1
    refine⟨y0,e0,?_,hd⟩
    have q4:=p4' (by decide)
    have q5:=p5' (by decide)
    have m1:qa8 (qbz T)=n.toNat:=by
      rw[r5]
      have:qa8 (qbz (qfP w v a b n t))=qah (qeg n.toNat) 8:=qcs fun i hi=>by
        have:i=0\/i=1\/i=2\/i=3\/i=4\/i=5\/i=6\/i=7:=by have:i<8:=hi;omega
        rcases this with rfl|rfl|rfl|rfl|rfl|rfl|rfl|rfl<;>rfl
      rw[this,qfl]
      exact Nat.mod_eq_of_lt (by omega)
    have m2:qah T.tabs 60=t.toNat:=by
      rw[r6]
      have:qah (qfP w v a b n t).tabs 60=qah (qeg t.toNat) 60:=qcs fun i hi=>by show(if i<60 then _ else _)=_;rw[if_pos hi]
      rw[this,qfl]
      exact Nat.mod_eq_of_lt (by omega)
    unfold qN
    rw[m1,m2,r1,r2,r3,r4,e0',e1',e2',e3',e4',e5',e6']
    rfl
theorem qa7 {lim:Int}{n:Nat}(r:List Int)(h:n<2^63)(hl:0<lim->(n:Int)<lim):qM lim (some (qS n++r))=((n:Int),some r):=by
 rw[qM,qjZ r (by omega)]
 dsimp only
 have h0:¬(qS n).length=0:=fun e=>qoO 9 n (List.eq_nil_of_length_eq_zero e)
 rw[if_neg (by rintro (h|h|h);exact h0 h;omega;have:=hl h.1;omega),List.drop_left' rfl]
theorem qcQ {most:Int}{x:ByteArray}(r:List Int)(h0:0<most/\most<=1000000)(h:(x.size:Int)<=most):qb4 most (some (qbp x++r))=(qf (qaW x),some r):=by
 unfold qb4 qbp
 rw[if_pos h0.1,List.append_assoc,qa7 _ (by omega) (fun _=>by omega)]
 dsimp only
 have hl:=qeN x
 rw[if_neg (by rw[List.length_append];omega),Int.toNat_natCast,<-hl,List.take_left' rfl,List.drop_left' rfl]
theorem qdu (x:ByteArray):qf (qaW x)=x:=by
 have:(qf (qaW x)).data.toList=x.data.toList:=by
  rw[qcr]
  unfold qaW
  rw[List.map_map]
  refine(List.map_congr_left fun b _=>?_).trans (List.map_id _)
  show UInt8.ofNat ((b.toNat:Int).toNat)=b
  rw[Int.toNat_natCast];exact UInt8.ofNat_toNat
 cases hA:qf (qaW x)with
 |mk a=>
  rw[hA]at this
  cases x with
  |mk b=>exact congrArg ByteArray.mk (Array.toList_inj.1 this)
theorem qm0 {s:Sty}(r:List Int)(h:qB s=true):qgB (some (qS (qbA s)++r))=(s,true,some r):=by
 have hb:=qeO h
 unfold qgB
 rw[qa7 r (by omega) (fun _=>by omega)]
 dsimp only
 rw[Int.toNat_natCast,ql2 s h,if_pos (by rw[h];rfl)]
theorem qiL {W H:Int}{c:Cur}(r:List Int)(hc:CurOk W H c)(hW:W<=60)(hH:H<=60):qj7 W H (some (qe3 c++r))=(c,true,some r):=by
 obtain⟨x,y,l,s⟩:=c
 obtain⟨hx,hy,hl,hs⟩:=hc
 dsimp only at hx hy hl hs
 have e1:qM W (some (qe3 ⟨x,y,l,s⟩++r))=(x,some (qS y.toNat++(qS (qa8 [l])++(qS (qbA s)++r)))):=by
  unfold qe3
  simp only[List.append_assoc]
  rw[qa7 _ (by omega) (fun _=>by omega),Int.toNat_of_nonneg hx.1]
 have e2:qM H (some (qS y.toNat++(qS (qa8 [l])++(qS (qbA s)++r))))=(y,some (qS (qa8 [l])++(qS (qbA s)++r))):=by
  rw[qa7 _ (by omega) (fun _=>by omega),Int.toNat_of_nonneg hy.1]
 have hf:qa8 [l]=if l=true then 1 else 0:=by cases l<;>rfl
 have e3:qM 2 (some (qS (qa8 [l])++(qS (qbA s)++r)))=(((qa8 [l]:Nat):Int),some (qS (qbA s)++r)):=qa7 _ (by rw[hf];split<;>omega) (fun _=>by rw[hf];split<;>omega)
 rw[qfn e1 e2 e3 (qm0 r hs)]
 have e4:(((qa8 [l]:Nat):Int)==1)=l:=by rw[hf];cases l<;>rfl
 rw[e4]
 cases l with
 |false=>rfl
 |true=>
  have:=hl rfl
  rw[this]
  simp
theorem qeS (c:Cel):∀(l:List Cel),∃n r,c::l=List.replicate (n+1) c++r/\r.head? ≠some c
 |[]=>⟨0,[],rfl,by simp⟩
 |d::l=>by
  by_cases h:d=c
  ·subst h
   obtain⟨n,r,e,hr⟩:=qeS d l
   exact⟨n+1,r,by rw[List.replicate_succ,List.cons_append,<-e],hr⟩
  ·exact⟨0,d::l,rfl,by simp[h]⟩
theorem qk8:∀(f:Nat) (W:Int) (out l:List Cel) (r:List Int),(∀c∈l,cOk c)->((out.length+l.length:Nat):Int)=W->W<=1000->l.length<=f->(l=[]\/out.getLast? ≠l.head?)->qbW f W out (some (qa2 l++r))=(some (out++l),some r)
 |f,W,out,[],r,_,hW,_,_,_=>by
  rw[qcO (by simp at hW;omega),List.append_nil];rfl
 |0,W,out,c::l,r,_,_,_,hf,_=>by simp at hf
 |f+1,W,out,c::l,r,hc,hW,hW2,hf,hne=>by
  obtain⟨n,l',e,hl'⟩:=qeS c l
  have hlen:(c::l).length=(n+1)+l'.length:=by rw[e,List.length_append,List.length_replicate]
  have hcc:=hc c (List.mem_cons_self ..)
  obtain⟨h1,h2,h3⟩:=hcc
  have hne2:out.getLast? ≠some c:=hne.resolve_left (by simp)
  rw[e,qdr hl' n]
  have hno:¬W<=(out.length:Int):=by rw[hlen]at hW;omega
  have hlim:(0:Int)<W-(out.length:Int)+1->(((n+1:Nat)):Int)<W-(out.length:Int)+1:=fun _=>by rw[hlen]at hW;omega
  have e1:qM (W-(out.length:Int)+1) (some ((qdq (n+1) c++qa2 l')++r))=(((n+1:Nat):Int),some (qS c.rune.toNat++(qS (qbA c.sty)++(qa2 l'++r)))):=by
   unfold qdq
   simp only[List.append_assoc]
   exact qa7 _ (by rw[hlen]at hW;omega) hlim
  have e2:qM 1114112 (some (qS c.rune.toNat++(qS (qbA c.sty)++(qa2 l'++r))))=(c.rune,some (qS (qbA c.sty)++(qa2 l'++r))):=by
   rw[qa7 _ (by omega) (fun _=>by omega),Int.toNat_of_nonneg h2]
  have e3:=qm0 (qa2 l'++r) h1
  have hS:=qct (W:=W) (out:=out) e1 e2 e3
  rw[if_neg (by rintro (h|h|h);cases h;omega;exact hne2 h)]at hS
  rw[qbW,if_neg hno,hS]
  dsimp only
  rw[Int.toNat_natCast]
  have ih:=qk8 f W (out++List.replicate (n+1) c) l' r (fun d hd=>hc d (by rw[e];exact List.mem_append_right _ hd)) (by rw[List.length_append,List.length_replicate];rw[hlen]at hW;omega) hW2 (by omega) (by
   cases l' with
   |nil=>exact .inl rfl
   |cons d l'=>
    right
    have:(out++List.replicate (n+1) c).getLast? =some c:=by rw[List.replicate_succ',<-List.append_assoc,List.getLast?_append];rfl
    rw[this]
    exact fun h=>hl' h.symm)
  rw[show(⟨c.rune,c.sty⟩:Cel)=c from rfl,ih,List.append_assoc]
theorem qp1 {W:Int}{l:List Cel}(r:List Int)(hc:∀c∈l,cOk c)(hl:(l.length:Int)=W)(hW:W<=1000)(hw:qb1 l=true):qds W (some (qa2 l++r))=(l,true,some r):=by
 have:=qk8 W.toNat W [] l r hc (by simpa using hl) hW (by omega) (by
  cases l with
  |nil=>exact .inl rfl
  |cons c l=>exact .inr (by simp))
 unfold qds
 rw[this,List.nil_append]
 dsimp only
 rw[if_pos hw]
def LnOk (W:Int)(l:List Cel):Prop:=(l.length:Int)=W/\qb1 l=true/\ ∀c∈l,cOk c
theorem qdK {W:Int}(hW:W<=1000):∀(L out:List (List Cel)) (r:List Int),(∀l∈L,LnOk W l)->qaj W L.length out (some (L.flatMap qa2++r)) true=(out++L,some r,true)
 |[],out,r,_=>by rw[List.append_nil];rfl
 |l::L,out,r,h=>by
  obtain⟨h1,h2,h3⟩:=h l (List.mem_cons_self ..)
  rw[List.length_cons,qaj,List.flatMap_cons,List.append_assoc,qp1 _ h3 h1 hW h2]
  dsimp only
  rw[if_pos (show(true&&true)=true from rfl),qdK hW L _ r (fun m hm=>h m (List.mem_cons_of_mem _ hm)),List.append_assoc]
  rfl
theorem qk9:∀(B out:List (List Cel)) (r:List Int),(∀l∈B,0<l.length/\l.length<=60/\qb1 l=true/\ ∀c∈l,cOk c)->qe2 B.length out (some (qbP B++r)) true=(out++B,some r,true)
 |[],out,r,_=>by rw[List.append_nil];rfl
 |l::B,out,r,h=>by
  obtain⟨h0,h1,h2,h3⟩:=h l (List.mem_cons_self ..)
  have e:qbP (l::B)++r=qS l.length++(qa2 l++(qbP B++r)):=by unfold qbP;simp
  have e1:=qa7 (lim:=61) (n:=l.length) (qa2 l++(qbP B++r)) (by omega) (fun _=>by omega)
  have e2:=qdK (W:=(l.length:Int)) (by omega) [l] [] (qbP B++r) (fun m hm=>by rw[List.mem_singleton.1 hm];exact⟨rfl,h2,h3⟩)
  have e3:[l].flatMap qa2++(qbP B++r)=qa2 l++(qbP B++r):=by simp
  rw[e3]at e2
  rw[e,List.length_cons,qe2,e1]
  dsimp only
  rw[show qaj (l.length:Int) 1 [] (some (qa2 l++(qbP B++r))) true=_ from e2]
  dsimp only
  rw[if_pos (by rw[decide_eq_true (show(0:Int)<(l.length:Int) by omega)];rfl),qk9 B _ r (fun m hm=>h m (List.mem_cons_of_mem _ hm))]
  simp
theorem qp2 {B:List (List Cel)}(r:List Int)(hB:B.length<=20)(h:∀l∈B,0<l.length/\l.length<=60/\qb1 l=true/\ ∀c∈l,cOk c):qfN (some (qS B.length++(qbP B++r))) true=(B,some r,true):=by
 unfold qfN
 rw[qa7 _ (by omega) (fun _=>by omega)]
 dsimp only
 rw[Int.toNat_natCast,qk9 B [] r h];rfl
theorem qka:∀(q l:List Int) (r:List Int),(∀x∈q,0<=x/\x<=9999)->qeR q.length l (some (q.flatMap (fun n=>qS n.toNat)++r))=(l++q,some r)
 |[],l,r,_=>by rw[List.append_nil];rfl
 |x::q,l,r,h=>by
  have hx:=h x (List.mem_cons_self ..)
  rw[List.length_cons,qeR,List.flatMap_cons,List.append_assoc,qa7 _ (by omega) (fun _=>by omega)]
  dsimp only
  rw[Int.toNat_of_nonneg hx.1,qka q _ r (fun y hy=>h y (List.mem_cons_of_mem _ hy)),List.append_assoc]
  rfl
theorem qp3 {u:US}(h:utB u=true)(ho:u.ok):mkU u.pend=u:=by
 obtain⟨a,b,c,n⟩:=u
 unfold utB at h
 simp only[Bool.and_eq_true,decide_eq_true_eq]at h
 obtain⟨⟨⟨h0,h3⟩,hz⟩,_⟩:=h
 have hn:n=0\/n=1\/n=2\/n=3:=by omega
 unfold mkU US.pend
 rcases hn with rfl|rfl|rfl|rfl
 ·simp at hz⊢;omega
 ·simp at hz⊢;omega
 ·simp at hz⊢;omega
 ·simp
theorem qp4 {p:PS}(h:qG p=true):utB p.utf=true:=by
 unfold qG at h
 split at h
 ·cases h
 ·rename_i h1
  split at h
  ·simp only[Bool.and_eq_true]at h
   exact h.1.1
  ·rename_i h2
   have hb:qcP p.utf=true:=by
    cases e:qcP p.utf with
    |true=>rfl
    |false=>exact absurd (.inr ⟨h2,e⟩) h1
   unfold qcP at hb
   simp only[Bool.and_eq_true,beq_iff_eq]at hb
   obtain⟨⟨⟨e0,e1⟩,e2⟩,e3⟩:=hb
   unfold utB US.pend
   rw[e0,e1,e2,e3]
   decide
theorem qp5 {p:PS}(r:List Int)(h:ParsOk p):qiJ (some (qcf p++r)) true=(p,some r,true):=by
 obtain⟨st,u,m,q,x,wi⟩:=p
 obtain⟨h1,h2,h3,h4,h5,h6,h7,h8,h9⟩:=h
 dsimp only at h1 h2 h3 h4 h5 h6 h7 h8
 have hut:mkU u.pend=u:=qp3 (qp4 h9) h3
 have hpe:(qf u.pend).size=u.pend.length:=qbn _
 have hpb:qaW (qf u.pend)=u.pend:=qiI h3.pend
 have e1:qM 8 (some (qcf ⟨st,u,m,q,x,wi⟩++r))=(st,some (qS wi.toNat++(qbp (qf u.pend)++(qbp m++(qS q.length++(q.flatMap (fun n=>qS n.toNat)++(qbp x++r))))))):=by
  unfold qcf
  simp only[List.append_assoc]
  rw[qa7 _ (by omega) (fun _=>by omega),Int.toNat_of_nonneg h1.1]
 have e2:qM 8 (some (qS wi.toNat++(qbp (qf u.pend)++(qbp m++(qS q.length++(q.flatMap (fun n=>qS n.toNat)++(qbp x++r)))))))=(wi,some (qbp (qf u.pend)++(qbp m++(qS q.length++(q.flatMap (fun n=>qS n.toNat)++(qbp x++r)))))):=by
  rw[qa7 _ (by omega) (fun _=>by omega),Int.toNat_of_nonneg h2.1]
 have e3:=qcQ (most:=3) (x:=qf u.pend) (qbp m++(qS q.length++(q.flatMap (fun n=>qS n.toNat)++(qbp x++r)))) (by decide) (by omega)
 have e4:=qcQ (most:=2) (x:=m) (qS q.length++(q.flatMap (fun n=>qS n.toNat)++(qbp x++r))) (by decide) (by omega)
 have e5:=qa7 (lim:=9) (n:=q.length) (q.flatMap (fun n=>qS n.toNat)++(qbp x++r)) (by omega) (fun _=>by omega)
 have e6:=qka q [] (qbp x++r) h7
 have e7:=qcQ (most:=40) (x:=x) r (by decide) (by omega)
 rw[qdu]at e3 e4 e7
 rw[qg6 e1 e2 e3 e4 e5 (by rw[Int.toNat_natCast];exact e6) e7,hpb,hut,List.nil_append,h9]
 rfl
theorem qp6 {T T':TS}{W H:Int}(r:List Int)(h:DecOk T')(hW:T'.grid.w=W)(hH:T'.grid.h=H):
  qk6 T W H (some ((qe3 T'.cursor++(qe3 T'.saved++(qe3 T'.away++(T'.grid.lines.flatMap qa2++(T'.other.lines.flatMap qa2++(qS T'.back.length++(qbP T'.back++(qbp T'.title++(qbp T'.reply++qcf T'.parser)))))))))++r))=
   if r=[]then some {T with cursor:=T'.cursor,saved:=T'.saved,away:=T'.away,grid:=T'.grid,other:=T'.other,back:=T'.back,title:=T'.title,reply:=T'.reply,parser:=T'.parser}else none:=by
 obtain⟨dw,dh,⟨dow,doh⟩,dt,dc,ds,da,dg,dg2,dk,dti,dr,dp⟩:=h
 subst hW hH
 have e1:=qiL (qe3 T'.saved++(qe3 T'.away++(T'.grid.lines.flatMap qa2++(T'.other.lines.flatMap qa2++(qS T'.back.length++(qbP T'.back++(qbp T'.title++(qbp T'.reply++(qcf T'.parser++r))))))))) dc dw.2 dh.2
 have e2:=qiL (qe3 T'.away++(T'.grid.lines.flatMap qa2++(T'.other.lines.flatMap qa2++(qS T'.back.length++(qbP T'.back++(qbp T'.title++(qbp T'.reply++(qcf T'.parser++r)))))))) ds dw.2 dh.2
 have e3:=qiL (T'.grid.lines.flatMap qa2++(T'.other.lines.flatMap qa2++(qS T'.back.length++(qbP T'.back++(qbp T'.title++(qbp T'.reply++(qcf T'.parser++r))))))) da dw.2 dh.2
 have e4:=qdK (W:=T'.grid.w) (by omega) T'.grid.lines [] (T'.other.lines.flatMap qa2++(qS T'.back.length++(qbP T'.back++(qbp T'.title++(qbp T'.reply++(qcf T'.parser++r)))))) dg.2
 have e5:=qdK (W:=T'.grid.w) (by omega) T'.other.lines [] (qS T'.back.length++(qbP T'.back++(qbp T'.title++(qbp T'.reply++(qcf T'.parser++r))))) dg2.2
 have e6:=qp2 (B:=T'.back) (qbp T'.title++(qbp T'.reply++(qcf T'.parser++r))) dk.1 dk.2
 have e7:=qcQ (most:=40) (x:=T'.title) (qbp T'.reply++(qcf T'.parser++r)) (by decide) (by omega)
 have e8:=qcQ (most:=400) (x:=T'.reply) (qcf T'.parser++r) (by decide) (by omega)
 have e9:=qp5 r dp
 rw[qdu]at e7 e8
 rw[dg.1]at e4
 rw[dg2.1]at e5
 simp only[List.append_assoc]
 unfold qk6
 rw[e1]
 dsimp only
 rw[e2]
 dsimp only
 rw[e3]
 dsimp only
 rw[show((true&&true)&&true)=true from rfl,e4]
 dsimp only
 rw[e5]
 dsimp only
 rw[e6]
 dsimp only
 rw[e7]
 dsimp only
 rw[e8]
 dsimp only
 rw[e9]
 dsimp only
 rw[List.nil_append,List.nil_append]
 have eg:(⟨T'.grid.w,T'.grid.h,T'.grid.lines⟩:Gr)=T'.grid:=rfl
 have eo:(⟨T'.grid.w,T'.grid.h,T'.other.lines⟩:Gr)=T'.other:=by
  rw[<-dow,<-doh]
 rw[eg,eo]
 by_cases hr:r=[]
 ·rw[if_pos hr,if_pos ⟨rfl,by rw[hr]⟩]
 ·rw[if_neg hr,if_neg (by rintro ⟨_,h⟩;exact hr (Option.some.inj h))]
def qp7 (T:TS):TS:={T with tabs:=qfO (qah T.tabs 60) 60}
theorem qe4 (f:Nat->Bool):∀(k i:Nat),i<k->qeg (qah f k) i=f i
 |0,i,h=>by omega
 |k+1,i,h=>by
  have hlt:=qbv f k
  rw[qah]
  unfold qeg
  by_cases hi:i=k
  ·subst hi
   cases hf:f i with
   |true=>
    rw[if_pos rfl,Nat.add_div_right _ (Nat.pow_pos (by decide)),Nat.div_eq_of_lt hlt];rfl
   |false=>
    simp only[Bool.false_eq_true,↓reduceIte,Nat.add_zero]
    rw[Nat.div_eq_of_lt hlt];rfl
  ·have ih:=qe4 f k i (by omega)
   unfold qeg at ih
   rw[<-ih]
   split
   ·have e:2^k=2^i*(2*2^(k-i-1)):=by
     rw[<-Nat.pow_succ',<-Nat.pow_add]
     congr 1;omega
    rw[e,Nat.add_mul_div_left _ _ (Nat.pow_pos (by decide)),Nat.add_mul_mod_self_left]
   ·rw[Nat.add_zero]
theorem decT_put {T:TS}(h:DecOk T)(r:List Int):qlZ (some (qN T++r))=if r=[]then some (qp7 T)else none:=by
 have hw:=h.w
 have hh:=h.h
 have ht:=h.t
 have hfl:qa8 (qbz T)<2^8:=qbv _ 8
 have htb:=qbv T.tabs 60
 have e:qN T++r=qS T.grid.w.toNat++(qS T.grid.h.toNat++(qS T.top.toNat++(qS T.bot.toNat++(qS (qa8 (qbz T))++(qS (qah T.tabs 60)++((qe3 T.cursor++(qe3 T.saved++(qe3 T.away++(T.grid.lines.flatMap qa2++(T.other.lines.flatMap qa2++(qS T.back.length++(qbP T.back++(qbp T.title++(qbp T.reply++qcf T.parser)))))))))++r)))))):=by
  unfold qN
  simp only[List.append_assoc]
 rw[e]
 generalize hR:(qe3 T.cursor++(qe3 T.saved++(qe3 T.away++(T.grid.lines.flatMap qa2++(T.other.lines.flatMap qa2++(qS T.back.length++(qbP T.back++(qbp T.title++(qbp T.reply++qcf T.parser)))))))))++r=R
 have e1:=qa7 (lim:=61) (n:=T.grid.w.toNat) (qS T.grid.h.toNat++(qS T.top.toNat++(qS T.bot.toNat++(qS (qa8 (qbz T))++(qS (qah T.tabs 60)++R))))) (by omega) (fun _=>by omega)
 have e2:=qa7 (lim:=61) (n:=T.grid.h.toNat) (qS T.top.toNat++(qS T.bot.toNat++(qS (qa8 (qbz T))++(qS (qah T.tabs 60)++R)))) (by omega) (fun _=>by omega)
 have e3:=qa7 (lim:=T.grid.h+1) (n:=T.top.toNat) (qS T.bot.toNat++(qS (qa8 (qbz T))++(qS (qah T.tabs 60)++R))) (by omega) (fun _=>by omega)
 have e4:=qa7 (lim:=T.grid.h+1) (n:=T.bot.toNat) (qS (qa8 (qbz T))++(qS (qah T.tabs 60)++R)) (by omega) (fun _=>by omega)
 have e5:=qa7 (lim:=256) (n:=qa8 (qbz T)) (qS (qah T.tabs 60)++R) (by omega) (fun _=>by omega)
 have e6:=qa7 (lim:=1152921504606846976) (n:=qah T.tabs 60) R (by omega) (fun _=>by omega)
 rw[Int.toNat_of_nonneg (by omega)]at e1 e2 e3 e4
 unfold qlZ
 rw[qd0 e1 e2 e3 e4 e5 e6,if_neg (by rintro (h|h|h|h);cases h;omega;omega;omega)]
 dsimp only
 have hgw:(qfP T.grid.w T.grid.h T.top T.bot ((qa8 (qbz T):Nat):Int) ((qah T.tabs 60:Nat):Int)).grid.w=T.grid.w:=by show qi T.grid.w=_;unfold qi;omega
 have hgh:(qfP T.grid.w T.grid.h T.top T.bot ((qa8 (qbz T):Nat):Int) ((qah T.tabs 60:Nat):Int)).grid.h=T.grid.h:=by show qi T.grid.h=_;unfold qi;omega
 rw[hgw,hgh,<-hR,qp6 r h rfl rfl]
 have hm:∀i,i<8->qeg (qa8 (qbz T)) i=lb (qbz T) i:=fun i hi=>qe4 _ 8 i hi
 by_cases hr:r=[]
 ·rw[if_pos hr,if_pos hr]
  refine congrArg some ?_
  unfold qfP qp7
  simp only[Int.toNat_natCast]
  rw[hm 0 (by decide),hm 1 (by decide),hm 2 (by decide),hm 3 (by decide),hm 4 (by decide),hm 5 (by decide),hm 6 (by decide),hm 7 (by decide)]
  rfl
 ·rw[if_neg hr,if_neg hr]
theorem qm1:zb ByteArray.empty=true:=beq_self_eq_true _
theorem ql3 {n:Nat}{p:Nat->Bool}(h:∀i,i<n->p i=true):(List.range n).all p=true:=List.all_eq_true.2 fun i hi=>h i (List.mem_range.1 hi)
theorem qp8 {c:Int}(h:lowM c):qk5 c=true:=by unfold qk5;simp[h.1,h.2]
theorem qp9 {c:Int}(h:wideM c):qbQ c=true:=by
 unfold qbQ
 rcases h with h|h
 ·rw[qp8 h];rfl
 ·simp[h.1,h.2]
theorem utB_of {u:US}(h:uR u):utB u=true:=by
 obtain⟨a,b,c,n⟩:=u
 obtain⟨⟨h1,h2⟩,h3,h4,h5,h6⟩:=h
 dsimp only at h1 h2 h3 h4 h5 h6
 have hn:n=0\/n=1\/n=2\/n=3:=by omega
 unfold utB
 rcases hn with rfl|rfl|rfl|rfl
 ·rw[h3 (by decide),h4 (by decide),h5 (by decide)];decide
 ·rw[h4 (by decide),h5 (by decide)]at h6⊢
  have:=h6.resolve_left (by decide)
  simp[this]
 ·rw[h5 (by decide)]at h6⊢
  have:=h6.resolve_left (by decide)
  simp[this]
 ·have:=h6.resolve_left (by decide)
  simp[this]
theorem qnh {p:PS}(h:PRight p)(hl:p.lim):qG p=true:=by
 have hst:=h.st
 have hb:p.state≠0->qcP p.utf=true:=fun e=>by rw[h.u e];decide
 have hm:p.state≠2->p.state≠3->p.state≠4->zb p.marks=true:=fun a b c=>by rw[h.m a b c];exact qm1
 have hn:p.state≠3->p.state≠4->(p.params.length==0)=true:=fun a b=>by rw[h.n a b];rfl
 have ht:p.state<=4->zb p.text=true:=fun a=>by rw[h.t a];exact qm1
 have hx:qdt p.text=true:=by
  unfold qdt
  rw[ql3 fun i hi=>decide_eq_true (h.t5 i hi),decide_eq_true hl.t];rfl
 have hq:qgH p.params=true:=by
  unfold qgH
  rw[decide_eq_true hl.n,Bool.and_true]
  exact List.all_eq_true.2 fun x hx=>by have:=hl.b x hx;simp[this.1,this.2]
 have hw0:=h.wi
 unfold qG qgG
 rw[if_neg (by
  rintro (⟨a,b⟩|⟨a,b⟩)
  ·exact b (hw0 a)
  ·rw[hb a]at b;cases b)]
 by_cases s0:p.state=0
 ·rw[if_pos s0,utB_of h.u',hm (by omega) (by omega) (by omega),hn (by omega) (by omega),ht (by omega)];rfl
 rw[if_neg s0]
 by_cases s1:p.state=1
 ·rw[if_pos s1,hm (by omega) (by omega) (by omega),hn (by omega) (by omega),ht (by omega)];rfl
 rw[if_neg s1]
 by_cases s2:p.state=2
 ·obtain⟨m1,m2⟩:=h.m2 s2
  rw[if_pos s2,hn (by omega) (by omega),ht (by omega)]
  unfold qbe
  rw[decide_eq_true m1,decide_eq_true hl.m,ql3 fun i hi=>qp8 (m2 i hi)];rfl
 rw[if_neg s2]
 by_cases s3:p.state=3\/p.state=4
 ·rw[if_pos s3,hq,ht (by omega)]
  unfold qbe
  rw[decide_eq_true (Nat.zero_le _),decide_eq_true hl.m,ql3 fun i hi=>qp9 (h.m3 s3 i hi)];rfl
 rw[if_neg s3]
 by_cases s7:p.state=7
 ·rw[if_pos s7,if_neg (by have:=h.wc s7;omega),hm (by omega) (by omega) (by omega),hn (by omega) (by omega),hx];rfl
 rw[if_neg s7,if_pos (by omega),hm (by omega) (by omega) (by omega),hn (by omega) (by omega),hx];rfl
theorem qpa {p:PS}(h:PRight p)(hl:p.lim):ParsOk p:=by
 have hst:=h.st
 refine⟨by omega,?_,hl.u,⟨hl.u.len.symm,by rw[hl.u.len];have:=hl.u.n;omega⟩,hl.m,hl.n,hl.b,hl.t,qnh h hl⟩
 by_cases e:p.state=7
 ·have:=h.wc e;omega
 ·have:=h.wi e;omega
theorem cOk_of {c:Cel}(h:celO c):cOk c:=by
 obtain⟨h1,h2⟩:=h
 refine⟨h1,?_⟩
 rcases h2 with h2|h2
 ·omega
 ·unfold qbK at h2
  simp only[Bool.and_eq_true,Bool.or_eq_true,decide_eq_true_eq,bne_iff_ne,Bool.not_eq_true',decide_eq_false_iff_not]at h2
  omega
theorem decOk_of {W H:Int}{T:TS}(h:Okt true W H T)(hp:PRight T.parser)(hl:T.parser.lim):DecOk T:=by
 obtain⟨⟨hW,hH,⟨g1,g1'⟩,⟨g2,g2'⟩,cu,sa,aw,tb,bk,rp⟩,hg,ho,hb,cs,cl,ss,sl,ay,al,ti⟩:=h
 subst g1 g1'
 have hline:∀{G:Gr},okD G->G.w=T.grid.w-> ∀l∈G.lines,(l.length:Int)=T.grid.w/\qb1 l=true/\ ∀c∈l,cOk c:=fun hG e l hl'=>by
  have h1:=hG.wid l hl'
  have h2:=hG.ok l hl'
  exact⟨by rw[h1];omega,h2.2,fun c hc=>cOk_of (h2.1 c hc)⟩
 refine⟨hW,hH,⟨g2,g2'⟩,tb,⟨cu.1,cu.2,cl rfl,cs⟩,⟨sa.1,sa.2,sl,ss⟩,⟨aw.1,aw.2,al,ay⟩,⟨hg.len,hline hg rfl⟩,⟨by rw[ho.len,g2'],hline ho g2⟩,⟨bk,fun l hl'=>?_⟩,ti,rp,qpa hp hl⟩
 obtain⟨h1,h2,h3⟩:=hb l hl'
 exact⟨List.length_pos_iff.2 h2,h3,h1.2,fun c hc=>cOk_of (h1.1 c hc)⟩
end Go.Proofs.YtjjcnhgpccancaaGreatDoor.X
