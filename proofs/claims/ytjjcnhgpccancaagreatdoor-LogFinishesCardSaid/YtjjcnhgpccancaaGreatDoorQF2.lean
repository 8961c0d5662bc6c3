/- What the proofs of LogFinishes need, part 2: the walks of the program's functions and the plain laws about them. -/
import Derived.Test.YtjjcnhgpccancaaGreatDoorQF1
import Derived.Test.YtjjcnhgpccancaaGreatDoorProg
import Derived.WalkKit
import Derived.KernelRfl
import Derived.Below
import Derived.Deep.LoopGhost
import Derived.Deep.QuietTactic
import Derived.BigQuiet
import Derived.OwnWalk
set_option linter.unusedSimpArgs false
set_option linter.unusedVariables false
set_option maxHeartbeats 4000000
namespace Go.Proofs.YtjjcnhgpccancaaGreatDoor
open Go Go.RowKit
theorem hidd {p:Prop}(h:p):Hid p:=h
def qbP (r:Int):Bool:=decide (32<=r)&&decide (r<=1114111)&&decide (r≠127)&&(decide (r<55296)||decide (57343<r))
theorem qcJ (r:Int)(w:World):Calls Tryz.prog 182 #[.int .i32 r] w fun e w'=>e= .returned (.bool (qbP r))/\w=w':=by
 by_cases h1:32<=r<;>by_cases h2:r<=1114111<;>by_cases h3:r=127<;>by_cases h4:r<55296<;>by_cases h5:57343<r
 all_goals
  go_enter Tryz.func182,Tryz.ntmps182
  go_wp2
  go_ret
  exact⟨by simp[qbP, *],rfl⟩
def wideL:List Int:=[4352,4447,11904,42191,44032,55203,63744,64255,65072,65135,65280,65376,65504,65510,127744,128591,131072,262141]
def qhw (r:Int):List Int->Bool
 |a::b::l=>if r<a then false else if r<=b then true else qhw r l
 |_=>false
def qb1 (r:Int):Bool:= !(r==12351)&&qhw r wideL
def Table (w:World)(g:Nat)(l:List Int):Prop:= ∀j,j<l.length->w.cell? ⟨g,j,none⟩=some (.int .i32 (l.getD j 0))
theorem qkL (r:Int)(k:Nat)(l:List Int)(h:k+1<l.length):
  qhw r (l.drop k)=if r<l.getD k 0 then false else if r<=l.getD (k+1) 0 then true else qhw r (l.drop (k+2)):=by
 have e1:l.drop k=l.getD k 0::l.getD (k+1) 0::l.drop (k+2):=by
  rw[List.drop_eq_getElem_cons (by omega),List.drop_eq_getElem_cons (by omega)]
  simp[List.getD_eq_getElem?_getD,List.getElem?_eq_getElem h,List.getElem?_eq_getElem (show k<l.length by omega)]
 rw[e1]
 rfl
set_option maxHeartbeats 1000000 in
theorem qbK (r:Int)(w:World)(hw:Table w 0 wideL):Calls Tryz.prog 171 #[.int .i32 r] w fun e w'=>e= .returned (.bool (qb1 r))/\w=w':=by
 by_cases h1:r=12351
 ·subst h1
  go_enter Tryz.func171,Tryz.ntmps171
  go_wp2
  go_ret
  exact⟨rfl,rfl⟩
 ·have hb:(r==12351)=false:=by simpa using h1
  have hwb:qb1 r=qhw r (wideL.drop 0):=by simp[qb1,hb]
  have HW:=hidd hwb
  clear hwb h1
  go_enter Tryz.func171,Tryz.ntmps171
  go_wp2
  go_loop [3] (fun i=> ∃k:Nat,k<=9/\i= .int .i64 (2*k:Nat)/\qb1 r=qhw r (wideL.drop (2*k))) (fun i=>18-(intOf i).toNat)
  case atStart=>exact⟨0,by omega,rfl,HW.out⟩
  case round=>
   obtain⟨k,hk,rfl,hrel⟩:=hrel
   have HR:=hidd hrel
   clear hrel HW
   by_cases hlt:k<9
   ·have c0:=hw (2*k) (by simp[wideL];omega)
    have c1:=hw (2*k+1) (by simp[wideL];omega)
    have hd:=qkL r (2*k) wideL (by simp[wideL];omega)
    have HD:=hidd hd
    clear hd
    generalize wideL.getD (2*k) 0=x at*
    generalize wideL.getD (2*k+1) 0=y at*
    obtain⟨z,hz⟩:∃z,z=2*k:=⟨_,rfl⟩
    have hz2:z+1<18:=by omega
    have HZ:=hidd hz
    rw[<-hz]at c0 c1⊢
    clear hz hw
    go_wp2
    ·have hc:r<x:=by assumption
     go_ret
     refine⟨?_,rfl⟩
     rw[HR.out,HD.out,if_pos hc];rfl
    ·have hc:x<=r:=by assumption
     have hc':r<=y:=by assumption
     go_ret
     refine⟨?_,rfl⟩
     rw[HR.out,HD.out,if_neg (by omega),if_pos hc'];rfl
    ·have hc:x<=r:=by assumption
     have hc':y<r:=by assumption
     refine⟨⟨k+1,by omega,?_,?_⟩,?_⟩
     ·rw[HZ.out];congr 1
     ·rw[HR.out,HD.out,if_neg (by omega),if_neg (by omega)];first|rfl|(simp only[Nat.mul_add])
     ·simp[intOf];omega
   ·obtain rfl:k=9:=by omega
    clear hw
    go_wp2
    go_ret
    refine⟨?_,rfl⟩
    rw[HR.out];rfl
def signsL:List Int:=[9670,9618,9225,9228,9229,9226,176,177,9252,9227,9496,9488,9484,9492,9532,9146,9147,9472,9148,9149,9500,9508,9524,9516,9474,8804,8805,960,8800,163,183]
def qaF (r:Int):Int:=if 96<=r/\r<=126 then signsL.getD (r-96).toNat 0 else r
set_option maxHeartbeats 1000000 in
theorem qon (r:Int)(w:World)(h:r<96\/126<r):Calls Tryz.prog 181 #[.int .i32 r] w fun e w'=>e= .returned (.int .i32 r)/\w=w':=by
 by_cases h1:r<96
 ·go_enter Tryz.func181,Tryz.ntmps181
  go_wp2
  go_ret
  exact⟨rfl,rfl⟩
 ·have h2:126<r:=by omega
  clear h
  go_enter Tryz.func181,Tryz.ntmps181
  go_wp2
  go_ret
  exact⟨rfl,rfl⟩
set_option maxHeartbeats 1000000 in
theorem drawn_in (j:Nat)(x:Int)(w:World)(h:j<31)(hc:w.cell? ⟨3,j,none⟩=some (.int .i32 x)):Calls Tryz.prog 181 #[.int .i32 ((j:Int)+96)] w fun e w'=>e= .returned (.int .i32 x)/\w=w':=by
 go_enter Tryz.func181,Tryz.ntmps181
 go_wp2
 go_ret
 exact⟨rfl,rfl⟩
theorem qji (r:Int)(w:World)(hs:Table w 3 signsL):Calls Tryz.prog 181 #[.int .i32 r] w fun e w'=>e= .returned (.int .i32 (qaF r))/\w=w':=by
 unfold qaF
 by_cases h:96<=r/\r<=126
 ·rw[if_pos h]
  obtain⟨j,rfl⟩:∃j:Nat,r=(j:Int)+96:=⟨(r-96).toNat,by omega⟩
  have e:((j:Int)+96-96).toNat=j:=by omega
  rw[e]
  exact drawn_in j _ w (by omega) (hs j (by simp[signsL];omega))
 ·rw[if_neg h]
  exact qon r w (by omega)
def qai (w:World):Prop:=Table w 0 wideL/\Table w 3 signsL
def qoo (r:Int):Int:=if qb1 r then 2 else if qbP r then 1 else 0
def qcC (l:List Int):Int:=(l.map qoo).sum
theorem colI_bd (r:Int):0<=qoo r/\qoo r<=2:=by unfold qoo;split<;>(try split)<;>omega
theorem colsI_bd (l:List Int):0<=qcC l/\qcC l<=2*l.length:=by
 induction l with
 |nil=>simp[qcC]
 |cons a l ih=>have:=colI_bd a;simp[qcC]at*;omega
theorem qmW (l:List Int)(k:Nat)(h:k<l.length):qcC (l.take (k+1))=qcC (l.take k)+qoo (l.getD k 0):=by
 rw[List.take_succ_eq_append_getElem h]
 unfold qcC
 rw[List.map_append,List.sum_append]
 simp[List.getD_eq_getElem?_getD,List.getElem?_eq_getElem h]
def Runes (w:World)(a:Option Addr)(n:Nat)(l:List Int):Prop:=l.length=n/\ ∀j,j<n-> ∃p,a=some p/\w.cell? (p.add j)=some (.int .i32 (l.getD j 0))
set_option maxHeartbeats 1000000 in
theorem qb2 (a:Option Addr)(n c:Nat)(l:List Int)(w:World)(hT:qai w)(hr:Runes w a n l)(hn:n<=4611686018427387903):
  Calls Tryz.prog 183 #[.slice a n c] w fun e w'=>e= .returned (.int .i64 (qcC l))/\w=w':=by
 obtain⟨hl,hc⟩:=hr
 go_enter Tryz.func183,Tryz.ntmps183
 go_wp2
 go_loop [3,8] (fun s i=> ∃k:Nat,k<=n/\i= .int .i64 k/\s= .int .i64 (qcC (l.take k))) (fun _ i=>n-(intOf i).toNat)
 case atStart=>exact⟨0,by omega,rfl,rfl⟩
 case round=>
  obtain⟨k,hk,rfl,rfl⟩:=hrel
  by_cases hlt:k<n
  ·have ht:=qmW l k (by omega)
   have hb:=colsI_bd (l.take k)
   have hlen:(l.take k).length<=k:=List.length_take_le _ _
   obtain⟨p,rfl,hcell⟩:=hc k hlt
   generalize l.getD k 0=r at*
   generalize hs:qcC (l.take k)=s at*
   have HT:=hidd ht
   have HL:=hidd hl
   have HS:=hidd hs
   have ci:qoo r=if qb1 r then 2 else if qbP r then 1 else 0:=rfl
   have HC:=hidd ci
   clear ht hs hl hc ci
   rcases h1:qb1 r<;>rcases h2:qbP r
   all_goals
    go_wp2_with (first|(go_at_call 171;refine(qbK _ _ hT.1).mono ?_;rintro e w' ⟨rfl,rfl⟩)|(go_at_call 182;refine(qcJ _ _).mono ?_;rintro e w' ⟨rfl,rfl⟩))
    refine⟨⟨k+1,by omega,by go_num,?_⟩,by simp[intOf];omega⟩
    rw[HT.out,HC.out]
    simp[h1,h2]
  ·obtain rfl:k=n:=by omega
   go_wp2
   go_ret
   refine⟨?_,rfl⟩
   rw[List.take_of_length_le (by omega)];rfl
end Go.Proofs.YtjjcnhgpccancaaGreatDoor
namespace Go.Proofs.YtjjcnhgpccancaaGreatDoor.X
open Go Go.RowKit Go.Proofs.YtjjcnhgpccancaaGreatDoor
structure Sty where
 bold:Bool
 under:Bool
 turned:Bool
 fore:Int
 back:Int
 deriving DecidableEq
structure Cel where
 rune:Int
 sty:Sty
 deriving DecidableEq
structure Cur where
 x:Int
 y:Int
 late:Bool
 sty:Sty
 deriving DecidableEq
def qdd:Sty:=⟨false,false,false,0,0⟩
def cel0:Cel:=⟨0,qdd⟩
def cur0:Cur:=⟨0,0,false,qdd⟩
def qB (s:Sty):Cel:=⟨32,⟨false,false,false,0,s.back⟩⟩
def Cel.vals (c:Cel):List Value:=[.int .i32 c.rune,.bool c.sty.bold,.bool c.sty.under,.bool c.sty.turned,.int .i64 c.sty.fore,.int .i64 c.sty.back]
def qan:List Cel->List Value
 |[]=>[]
 |c::l=>c.vals++qan l
theorem qg0 (c:Cel):c.vals.length=6:=rfl
theorem qaO (l:List Cel):(qan l).length=l.length*6:=by
 induction l with
 |nil=>rfl
 |cons c l ih=>simp[qan,qg0,ih];omega
theorem qbL (a b:List Cel):qan (a++b)=qan a++qan b:=by
 induction a with
 |nil=>rfl
 |cons c l ih=>simp[qan,ih]
theorem qop (l:List Cel)(n:Nat):(qan l).drop (n*6)=qan (l.drop n):=by
 induction n generalizing l with
 |zero=>simp
 |succ n ih=>
  cases l with
  |nil=>simp[qan]
  |cons c l=>
   rw[List.drop_succ_cons,<-ih l,qan,show(n+1)*6=c.vals.length+n*6 by rw[qg0];omega,<-k7,List.drop_left]
theorem qgn (l:List Cel)(n:Nat):(qan l).take (n*6)=qan (l.take n):=by
 induction n generalizing l with
 |zero=>simp[qan]
 |succ n ih=>
  cases l with
  |nil=>simp[qan]
  |cons c l=>
   rw[List.take_succ_cons,qan,qan,show(n+1)*6=c.vals.length+n*6 by rw[qg0];omega,List.take_length_add_append,ih l]
def gc (l:List Cel)(i:Int):Cel:=l.getD i.toNat cel0
theorem qdO (l:List Cel)(i:Int)(k:Nat)(h0:0<=i)(h:i<(l.length:Nat))(hk:k<6):(qan l)[i.toNat*6+k]? =(gc l i).vals[k]? :=by
 have h1:i.toNat<l.length:=by omega
 have e:qan l=qan (l.take i.toNat)++((gc l i).vals++qan (l.drop (i.toNat+1))):=by
  conv=>lhs;rw[<-iV i.toNat l,jX h1]
  rw[qbL,qan];have:gc l i=l[i.toNat]:=by simp[gc,List.getD,ig h1]
  rw[this]
 have hl:(qan (l.take i.toNat)).length=i.toNat*6:=by rw[qaO,im];omega
 rw[e,iF (by omega),hl,iw (by rw[qg0];omega)];congr 1;omega
theorem qkM (a b r vs:List Value)(o:Nat)(ho:a.length=o)(hb:b.length=vs.length):put (a++b++r) o vs=a++vs++r:=by
 subst ho;have c:(a++b++r).take a.length=a:=by rw[ie,jU]
 have d:(a++b++r).drop (a.length+vs.length)=r:=by rw[<-hb,<-hJ,List.drop_left]
 unfold put;rw[c,d]
theorem qlD (l:List Cel)(i:Int)(h0:0<=i)(h:i<(l.length:Nat))(r:List Value):qan l++r=qan (l.take i.toNat)++(gc l i).vals++(qan (l.drop (i.toNat+1))++r):=by
 have h1:i.toNat<l.length:=by omega
 have:gc l i=l[i.toNat]:=by simp[gc,List.getD,ig h1]
 conv=>lhs;rw[<-iV i.toNat l,jX h1]
 rw[qbL,qan,this];simp[ie]
theorem qlE (l:List Cel)(i:Int)(h0:0<=i)(h:i<(l.length:Nat))(c:Cel)(r:List Value):qan (l.set i.toNat c)++r=qan (l.take i.toNat)++c.vals++(qan (l.drop (i.toNat+1))++r):=by
 have h1:i.toNat<l.length:=by omega
 rw[jI,if_pos h1,qbL,qan];simp[ie]
theorem put_cel (l:List Cel)(i:Int)(h0:0<=i)(h:i<(l.length:Nat))(c:Cel)(r:List Value):put (qan l++r) (i.toNat*6) c.vals=qan (l.set i.toNat c)++r:=by
 rw[qlD l i h0 h r,qlE l i h0 h c r];exact qkM _ (gc l i).vals _ c.vals _ (by rw[qaO,im];omega) rfl
theorem put_rune (l:List Cel)(i:Int)(h0:0<=i)(h:i<(l.length:Nat))(x:Int)(r:List Value):put (qan l++r) (i.toNat*6) [.int .i32 x]=qan (l.set i.toNat ⟨x,(gc l i).sty⟩)++r:=by
 rw[qlD l i h0 h r,qlE l i h0 h _ r];have e:∀(c:Cel) (s:List Value),c.vals++s=[Value.int .i32 c.rune]++((Cel.vals c).drop 1++s):=fun _ _=>rfl;rw[ie,e,<-ie,qkM _ [.int .i32 (gc l i).rune] _ [.int .i32 x] _ (by rw[qaO,im];omega) rfl];simp[Cel.vals,ie]
abbrev qdn:TypeId:=159
abbrev qbY:TypeId:=118
theorem qcg {w:World}{b o:Nat}{ys:List Value}(h:Rd w (some ⟨b,o,none⟩) ys)(j:Nat)(v:Value)(hv:ys[j]? =some v):w.cell? ⟨b,o+j,none⟩=some v:=by
 have:=h.2 _ rfl j v hv;rwa[qaZ]at this
section
variable {w:World}{b:Nat}{l:List Cel}{i:Int}(h:Rd w (some ⟨b,0,none⟩) (qan l))(h0:0<=i)(h1:i<(l.length:Nat))
include h h0 h1
theorem qes:w.cell? ⟨b,0+i.toNat*6,none⟩=some (.int .i32 (gc l i).rune):=qcg h (i.toNat*6) _ (qdO l i 0 h0 h1 (by decide))
theorem qet:w.cell? ⟨b,0+i.toNat*6+1,none⟩=some (.bool (gc l i).sty.bold):=by rw[jR];exact qcg h (i.toNat*6+1) _ (qdO l i 1 h0 h1 (by decide))
theorem qd0:w.cell? ⟨b,0+i.toNat*6+2,none⟩=some (.bool (gc l i).sty.under):=by rw[jR];exact qcg h (i.toNat*6+2) _ (qdO l i 2 h0 h1 (by decide))
theorem qc7:w.cell? ⟨b,0+i.toNat*6+3,none⟩=some (.bool (gc l i).sty.turned):=by rw[jR];exact qcg h (i.toNat*6+3) _ (qdO l i 3 h0 h1 (by decide))
theorem qeu:w.cell? ⟨b,0+i.toNat*6+4,none⟩=some (.int .i64 (gc l i).sty.fore):=by rw[jR];exact qcg h (i.toNat*6+4) _ (qdO l i 4 h0 h1 (by decide))
theorem qev:w.cell? ⟨b,0+i.toNat*6+5,none⟩=some (.int .i64 (gc l i).sty.back):=by rw[jR];exact qcg h (i.toNat*6+5) _ (qdO l i 5 h0 h1 (by decide))
end
def LineAt (w:World)(b:Nat)(l:List Cel)(cap:Nat):Prop:=Own w qdn 6 (some b) l.length cap (qan l)
theorem LineAt.rd {w:World}{b cap:Nat}{l:List Cel}(h:LineAt w b l cap):Rd w (some ⟨b,0,none⟩) (qan l):=Own.rd h
theorem LineAt.ch {w w':World}{b cap:Nat}{l:List Cel}{B:Nat->Prop}(h:LineAt w b l cap)(hc:Ch B w w')(hn:¬B b):LineAt w' b l cap:=Own.ch h hc fun g e=>by cases e;exact hn
theorem LineAt.lt {w:World}{b cap:Nat}{l:List Cel}(h:LineAt w b l cap):b<w.heap.size:=Own.lt h
theorem LineAt.blk {w:World}{b cap:Nat}{l:List Cel}(h:LineAt w b l cap):∃r,r.length=(cap-l.length)*6/\Blk w b (qan l++r) qdn:=h.2.2.2.2 b rfl
theorem LineAt.of {w:World}{b cap:Nat}{l:List Cel}{r:List Value}(h:Blk w b (qan l++r) qdn)(hr:r.length=(cap-l.length)*6)(hc:l.length<=cap)(hm:cap<=maxLen):LineAt w b l cap:=
 ⟨qaO l,hc,hm,(fun e=>by cases e),fun g e=>by cases e;exact⟨r,hr,h⟩⟩
theorem Ch.rd {w w':World}{b o:Nat}{ys:List Value}{B:Nat->Prop}(hc:Ch B w w')(h:Rd w (some ⟨b,o,none⟩) ys)(hn:¬B b):Rd w' (some ⟨b,o,none⟩) ys:=h.ch hc fun ad e=>by cases e;exact hn
def qZ (l:List Cel)(i:Int):Bool:=decide (0<=i)&&decide (i+1<(l.length:Nat))&&qb1 (gc l i).rune&&(gc l (i+1)==⟨0,(gc l i).sty⟩)
def qea (l:List Cel)(i:Int):Cel:=if(decide ((gc l i).rune=0)&& !qZ l (i-1))||(qb1 (gc l i).rune&& !qZ l i)then⟨32,(gc l i).sty⟩else gc l i
def qbw (l:List Cel):Nat->List Cel
 |0=>l
 |k+1=>(qbw l k).set k (qea l (k:Int))
def qew (l:List Cel):List Cel:=qbw l l.length
theorem qba (l:List Cel)(k:Nat):(qbw l k).length=l.length:=by
 induction k with
 |zero=>rfl
 |succ k ih=>simp[qbw,ih]
theorem qaH (l:List Cel):(qew l).length=l.length:=qba l _
def qD (s:Sty):Bool:=decide (0<=s.fore)&&decide (s.fore<=8)&&decide (0<=s.back)&&decide (s.back<=8)
def qkE (c:Cel):Bool:=qbP c.rune&&qD c.sty
abbrev qe3:Nat:=0
abbrev qc3:Nat:=3
abbrev gTop:Nat:=7
theorem g_lt:qe3<gTop/\qc3<gTop:=by decide
theorem qi {w w':World}{B:Nat->Prop}(h:Ch B w w')(hT:qai w)(h0:¬B qe3)(h1:¬B qc3):qai w':=
 ⟨fun j hj=>qg h (hT.1 j hj) h0,fun j hj=>qg h (hT.2 j hj) h1⟩
theorem qc8 {w w':World}(h:w=w'):Ch (fun _=>False) w w':=h▸Ch.refl _ _
def Df (x y:Nat):Prop:= ¬x=y
def Up (B:Nat)(w w':World):Prop:=Ch (fun k=>B<=k) w w'
theorem Up.refl (B:Nat)(w:World):Up B w w:=Ch.refl _ _
theorem Up.step {B:Nat}{w w1 w2:World}{C:Nat->Prop}(h:Up B w w1)(k:Ch C w1 w2)(hC:∀i,i<B-> ¬C i):Up B w w2:=
 h.trans k fun i _ hi=>Nat.le_of_not_lt fun hlt=>hC i hlt hi
theorem Up.ch {w w':World}(h:Up w.heap.size w w'):Ch (fun _=>False) w w':=h.mono fun i hi hb=>by omega
theorem cell_lt {w:World}{b o:Nat}{v:Value}(hc:w.cell? ⟨b,o,none⟩=some v):b<w.heap.size:=by
 rcases iL b w.heap.size with h'|h'
 ·exact h'
 ·simp[World.cell?,jk h']at hc
theorem qc4 {w:World}(h:qai w):qe3<w.heap.size/\qc3<w.heap.size:=⟨cell_lt (h.1 0 (by decide)),by first|exact cell_lt (h.2 0 (by decide))|exact cell_lt (h.1 0 (by decide))⟩
theorem qaY (l:List Cel):((qan l).all fun c=>c.oneCell')=true:=by
 induction l with
 |nil=>rfl
 |cons c l ih=>rw[qan,List.all_append,ih,k6];rfl
theorem qlF {w:World}{g b B:Nat}(h:some g=some b\/ ∃g',some g=some g'/\w.heap.size<=g')(hb:B<=b)(hw:B<=w.heap.size):B<=g:=by
 rcases h with h|⟨g',h,h'⟩
 ·have:=ia h;omega
 ·have:=ia h;omega
theorem qdP (l:List Cel)(r:List Value)(i:Int)(h0:0<=i)(h1:i<(l.length:Nat)){vs:List Value}(hv:vs.length<=6):0+i.toNat*6+vs.length<=(qan l++r).length:=by
 rw[hJ,qaO];omega
section
variable {w w':World}{b cap:Nat}{l:List Cel}{r:List Value}{i:Int}(h:LineAt w b l cap)(hr:r.length=(cap-l.length)*6)(h0:0<=i)(h1:i<(l.length:Nat))
include h hr h0 h1
theorem s_cel (c:Cel)(hb:Blk w' b (put (qan l++r) (0+i.toNat*6) c.vals) qdn):LineAt w' b (l.set i.toNat c) cap:=by
 rw[iJ,put_cel l i h0 h1]at hb;exact LineAt.of hb (by rw[iR];exact hr) (by rw[iR];exact h.2.1) h.2.2.1
theorem qoq (x:Int)(hb:Blk w' b (put (qan l++r) (0+i.toNat*6) [.int .i32 x]) qdn):LineAt w' b (l.set i.toNat ⟨x,(gc l i).sty⟩) cap:=by
 rw[iJ,put_rune l i h0 h1]at hb;exact LineAt.of hb (by rw[iR];exact hr) (by rw[iR];exact h.2.1) h.2.2.1
end
theorem qor (a b:Cel):((a.rune:Int)==b.rune&&((a.sty.bold==b.sty.bold)&&((a.sty.under==b.sty.under)&&((a.sty.turned==b.sty.turned)&&(((a.sty.fore:Int)==b.sty.fore)&&(((a.sty.back:Int)==b.sty.back)&&true))))&&true))=(a==b):=by
 obtain⟨r,⟨c,d,e,f,k⟩⟩:=a;obtain⟨r',⟨g,j,m,f',k'⟩⟩:=b;rw[iQ];simp[and_assoc]
theorem zc {a b:Bool}(h:a=b):Ending.returned (Value.bool a)=Ending.returned (Value.bool b):=by rw[h]
theorem zt {B B':Nat->Prop}{a b c:World}(h:Ch B a b)(k:Ch B' b c)(hB:∀i,i<a.heap.size->B' i->B i):Ch B a c:=Ch.trans h k hB
theorem zu {B:Nat}{w w1 w2:World}{C:Nat->Prop}(h:Up B w w1)(k:Ch C w1 w2)(hC:∀i,i<B-> ¬C i):Up B w w2:=Up.step h k hC
theorem zzs {B:Nat->Prop}{w w':World}(h:Ch B w w'):w.heap.size<=w'.heap.size:=h.size
theorem zr (w:World):Ch (fun _=>False) w w:=Ch.refl _ w
theorem zm (w:World):Up w.heap.size w w:=Up.refl _ w
theorem zi {α:Type}{a b:α}(h:some a=some b):a=b:=Option.some.inj h
theorem zn {B:Nat->Prop}{w w':World}{b:Nat}(hb:b=w'.heap.size)(h:Ch B w w'):w.heap.size<=b:=by rw[hb];exact h.size
abbrev CP:=Calls Tryz.prog
abbrev RQ (v:Value)(w:World):Ending->World->Prop:=fun e w'=>e= .returned v/\Ch (fun _=>False) w w'
structure Gr where
 w:Int
 h:Int
 lines:List (List Cel)
def Gr.ok (G:Gr):Prop:=(1<=G.w/\G.w<=60)/\(1<=G.h/\G.h<=60)/\G.lines.length=G.h.toNat/\ ∀l∈G.lines,l.length=G.w.toNat
structure Row where
 b:Nat
 n:Nat
 cap:Nat
 l:List Cel
def Row.val (x:Row):Value:= .slice (some ⟨x.b,0,none⟩) x.n x.cap
abbrev qgo:TypeId:=112
def gl (G:Gr)(y:Int):List Cel:=G.lines.getD y.toNat []
def more (F:Nat->Prop)(w w':World):Nat->Prop:=fun b=>F b\/(w.heap.size<=b/\b<w'.heap.size)
theorem qcc {F:Nat->Prop}{w w1 w2:World}(h1:w.heap.size<=w1.heap.size)(h2:w1.heap.size<=w2.heap.size):∀b,more (more F w w1) w1 w2 b->more F w w2 b:=by
 rintro b ((h|⟨h,h'⟩)|⟨h,h'⟩)
 ·exact .inl h
 ·exact .inr ⟨h,by omega⟩
 ·exact .inr ⟨by omega,h'⟩
structure GridIn (w:World)(g r cap:Nat)(rows:List Row)(G:Gr)(F:Nat->Prop):Prop where
 head:Blk w g [.int .i64 G.w,.int .i64 G.h,.slice (some ⟨r,0,none⟩) rows.length cap] qgo
 body:Own w qbY 1 (some r) rows.length cap (rows.map Row.val)
 line:∀x∈rows,LineAt w x.b x.l x.cap/\x.l.length=x.n
 lines:rows.map Row.l=G.lines
 ok:G.ok
 gr:r≠g
 gb:∀x∈rows,x.b≠g/\x.b≠r
 nodup:(rows.map Row.b).Nodup
 inF:F g/\F r/\ ∀x∈rows,F x.b
 lt:∀b,F b->b<w.heap.size
 hi:∀b,F b->gTop<=b
def GridAt (w:World)(g:Nat)(G:Gr)(F:Nat->Prop):Prop:= ∃r cap rows,GridIn w g r cap rows G F
section
variable {w w':World}{g r cap:Nat}{rows:List Row}{G:Gr}{F:Nat->Prop}
theorem GridIn.len (h:GridIn w g r cap rows G F):rows.length=G.h.toNat:=by
 have:=h.ok.2.2.1;rw[<-h.lines,hZ]at this;exact this
theorem GridIn.ch {B:Nat->Prop}(h:GridIn w g r cap rows G F)(hc:Ch B w w')(hB:∀b,F b-> ¬B b):GridIn w' g r cap rows G F:=
 {head:=h.head.ch hc (hB g h.inF.1)
  body:=h.body.ch hc fun b e=>by cases e;exact hB r h.inF.2.1
  line:=fun x hx=>⟨(h.line x hx).1.ch hc (hB _ (h.inF.2.2 x hx)),(h.line x hx).2⟩
  lines:=h.lines,ok:=h.ok,gr:=h.gr,gb:=h.gb,nodup:=h.nodup,inF:=h.inF
  lt:=fun b hb=>ic (h.lt b hb) hc.size
  hi:=h.hi}
theorem GridAt.ch {B:Nat->Prop}(h:GridAt w g G F)(hc:Ch B w w')(hB:∀b,F b-> ¬B b):GridAt w' g G F:=by
 obtain⟨r,cap,rows,h⟩:=h;exact⟨r,cap,rows,h.ch hc hB⟩
theorem GridIn.mono {F':Nat->Prop}(h:GridIn w g r cap rows G F)(hF:∀b,F b->F' b)(hl:∀b,F' b->b<w.heap.size/\gTop<=b):GridIn w g r cap rows G F':=
 {h with inF:=⟨hF _ h.inF.1,hF _ h.inF.2.1,fun x hx=>hF _ (h.inF.2.2 x hx)⟩,lt:=fun b hb=>(hl b hb).1,hi:=fun b hb=>(hl b hb).2}
theorem GridAt.mono {F':Nat->Prop}(h:GridAt w g G F)(hF:∀b,F b->F' b)(hl:∀b,F' b->b<w.heap.size/\gTop<=b):GridAt w g G F':=by
 obtain⟨r,cap,rows,h⟩:=h;exact⟨r,cap,rows,h.mono hF hl⟩
theorem GridAt.lt (h:GridAt w g G F):∀b,F b->b<w.heap.size:=by obtain⟨r,cap,rows,h⟩:=h;exact h.lt
theorem GridAt.ok (h:GridAt w g G F):G.ok:=by obtain⟨r,cap,rows,h⟩:=h;exact h.ok
theorem GridAt.inF (h:GridAt w g G F):F g:=by obtain⟨r,cap,rows,h⟩:=h;exact h.inF.1
theorem GridAt.hi (h:GridAt w g G F):∀b,F b->gTop<=b:=by obtain⟨r,cap,rows,h⟩:=h;exact h.hi
theorem qbZ (h:GridAt w g G F)(hs:w.heap.size<=w'.heap.size):∀b,more F w w' b->b<w'.heap.size/\gTop<=b:=by
 rintro b (hb|⟨c,a⟩)
 ·exact⟨ic (h.lt b hb) hs,h.hi b hb⟩
 ·have d:=h.hi g h.inF
  have e:=h.lt g h.inF;exact⟨a,by omega⟩
theorem GridAt.same (h:GridAt w g G F)(hc:Ch (fun _=>False) w w'):GridAt w' g G (more F w w'):=
 (h.ch hc fun _ _ h=>h).mono (fun _ h=> .inl h) (qbZ h hc.size)
theorem qig (h:GridIn w g r cap rows G F)(y:Int):∃x,0<=y/\y<G.h->rows[y.toNat]? =some x:=by
 by_cases hy:0<=y/\y<G.h
 ·have a:y.toNat<rows.length:=by
   have:=h.ok.2.2.1;rw[<-h.lines,hZ]at this;omega
  exact⟨rows[y.toNat],fun _=>ig a⟩
 ·exact⟨⟨0,0,0,[]⟩,fun h=>absurd h hy⟩
theorem GridAt.glt (h:GridAt w g G F):g<w.heap.size:=h.lt g h.inF
theorem qct {x:Row}{y:Int}(h:Own w qbY 1 (some r) rows.length cap (rows.map Row.val))(hx:rows[y.toNat]? =some x):w.cell? ⟨r,0+y.toNat*1,none⟩=some x.val:=by
 refine qcg (Own.rd h) (y.toNat*1) _ ?_;rw[iN,iM,hx];rfl
theorem row_some (h:GridIn w g r cap rows G F){y:Int}(h0:0<=y)(h1:y<G.h):∃x,rows[y.toNat]? =some x:=⟨_,ig (by rw[h.len];omega)⟩
theorem qex (h:GridIn w g r cap rows G F){y:Int}{x:Row}(hx:rows[y.toNat]? =some x):x.l=gl G y/\x.l.length=G.w.toNat/\x∈rows/\x.n=G.w.toNat:=by
 have hm:=jD hx;have hw:=h.ok.2.2.2 _ (h.lines▸jh hm);refine⟨?_,hw,hm,(h.line x hm).2▸hw⟩;unfold gl;rw[<-h.lines,List.getD,iM,hx];rfl
theorem qih {x:Row}{y:Int}{rest:List Value}(h0:y.toNat<rows.length)(hr:rest.length=(cap-rows.length)*1)(ho:Own w qbY 1 (some r) rows.length cap (rows.map Row.val))
  (hb:Blk w' r (put (rows.map Row.val++rest) (0+y.toNat*1) [x.val]) qbY):Own w' qbY 1 (some r) (rows.set y.toNat x).length cap ((rows.set y.toNat x).map Row.val):=by
 refine⟨by simp,by rw[iR];exact ho.2.1,ho.2.2.1,(fun e=>by cases e),fun b e=>⟨rest,by rw[iR];exact hr,?_⟩⟩;cases e;have e:put (rows.map Row.val++rest) (0+y.toNat*1) [x.val]=(rows.set y.toNat x).map Row.val++rest:=by
  rw[iJ,iN,List.map_set];have hl:y.toNat<(rows.map Row.val).length:=by simpa using h0
  unfold put;rw[jP (by omega),jQ (by simp;omega),jI,if_pos hl];simp
 rwa[e]at hb
theorem qii {y:Int}{rest:List Value}{v:Value}(h0:y.toNat<rows.length):0+y.toNat*1+[v].length<=(rows.map Row.val++rest).length:=by simp;omega
theorem qos {rows:List Row}(h:(rows.map Row.b).Nodup){i j:Nat}(hi:i<rows.length)(hj:j<rows.length)(e:rows[i].b=rows[j].b):i=j:=by
 have c:∀a b (ha:a<rows.length) (hb:b<rows.length),a<b->rows[a].b≠rows[b].b:=fun a b ha hb d=>by
  have:=List.pairwise_iff_getElem.1 h a b (by simpa using ha) (by simpa using hb) d;simpa using this
 rcases Nat.lt_trichotomy i j with h'|h'|h'
 ·exact absurd e (c i j hi hj h')
 ·exact h'
 ·exact absurd e.symm (c j i hj hi h')
theorem GridIn.setLine {x x':Row}{y:Int}(h:GridIn w g r cap rows G F)(hx:rows[y.toNat]? =some x)(hc:Ch (fun j=>j=x.b\/j=r) w w')
  (hbody:Own w' qbY 1 (some r) (rows.set y.toNat x').length cap ((rows.set y.toNat x').map Row.val)) (hl:LineAt w' x'.b x'.l x'.cap) (hb:x'.b=x.b\/w.heap.size<=x'.b) (hlen:x'.l.length=G.w.toNat) (hn:x'.l.length=x'.n):
  GridIn w' g r cap (rows.set y.toNat x') ⟨G.w,G.h,G.lines.set y.toNat x'.l⟩ (more F w w'):=by
 have hi:y.toNat<rows.length:=(io.1 hx).1;have k:rows[y.toNat]=x:=(io.1 hx).2;have m:x∈rows:=jD hx;have o:∀z∈rows.set y.toNat x',z=x'\/(z∈rows/\z.b≠x.b):=by
  intro z hz;obtain⟨j,hj⟩:=kh hz;rw[List.getElem?_set]at hj;split at hj
  ·exact .inl (ia hj).symm
  ·rename_i e
   refine .inr ⟨jD hj,fun hb=>e ?_⟩;obtain⟨c,rfl⟩:=io.1 hj;subst k;exact qos h.nodup hi c hb.symm
 have q:∀z∈rows,z.b≠x.b->z.b≠x'.b:=fun z hz d e=>by
  rcases hb with hb|hb
  ·exact d (e.trans hb)
  ·have:=h.lt _ (h.inF.2.2 z hz);omega
 have hg':x'.b≠g/\x'.b≠r:=by
  rcases hb with hb|hb
  ·rw[hb];exact h.gb x m
  ·have t:=h.lt _ h.inF.1
   have u:=h.lt _ h.inF.2.1;exact⟨by omega,by omega⟩
 refine⟨?_,hbody,?_,?_,?_,h.gr,?_,?_,?_,fun b hb=>(qbZ ⟨r,cap,rows,h⟩ hc.size b hb).1,fun b hb=>(qbZ ⟨r,cap,rows,h⟩ hc.size b hb).2⟩
 ·rw[iR]
  exact h.head.ch hc (by
   rintro (e|e)
   ·exact(h.gb x m).1 e.symm
   ·exact h.gr e.symm)
 ·intro z hz
  rcases o z hz with rfl|⟨hz,d⟩
  ·exact⟨hl,hn⟩
  ·exact⟨(h.line z hz).1.ch hc (by
    rintro (e|e)
    ·exact d e
    ·exact(h.gb z hz).2 e),(h.line z hz).2⟩
 ·rw[List.map_set,h.lines]
 ·refine⟨h.ok.1,h.ok.2.1,by rw[iR];exact h.ok.2.2.1,fun l s=>?_⟩
  rcases jp s with h'|h'
  ·exact h.ok.2.2.2 l h'
  ·rw[h'];exact hlen
 ·intro z hz
  rcases o z hz with rfl|⟨hz,_⟩
  ·exact hg'
  ·exact h.gb z hz
 ·rw[List.map_set]
  refine List.pairwise_iff_getElem.2 fun i j p c v=>?_;simp only[iR,hZ]at p c;rw[List.getElem_set,List.getElem_set];have hd:∀a b (ha:a<rows.length) (hb:b<rows.length),a≠b->rows[a].b≠rows[b].b:=fun a b ha hb d e=>d (qos h.nodup ha hb e);split
  ·rename_i e
   rw[if_neg (by omega),ke];refine fun e'=>q rows[j] (jG _) (fun f=>?_) e'.symm;rw[<-k]at f;exact hd j y.toNat c hi (by omega) f
  ·rename_i e
   split
   ·rename_i A
    rw[ke];refine fun e'=>q rows[i] (jG _) (fun f=>?_) e';rw[<-k]at f;exact hd i y.toNat p hi (by omega) f
   ·rw[ke,ke]
    exact hd i j p c (by omega)
 ·refine⟨.inl h.inF.1,.inl h.inF.2.1,fun z hz=>?_⟩
  rcases o z hz with rfl|⟨hz,_⟩
  ·rcases hb with hb|hb
   ·exact .inl (hb▸h.inF.2.2 x m)
   ·exact .inr ⟨hb,hl.lt⟩
  ·exact .inl (h.inF.2.2 z hz)
end
structure Asn where
 P:World->(Nat->Prop)->Prop
 ch:∀{w w':World} {F B:Nat->Prop},P w F->Ch B w w'->(∀b,F b-> ¬B b)->P w' F
 mono:∀{w:World} {F F':Nat->Prop},P w F->(∀b,F b->F' b)->(∀b,F' b->b<w.heap.size/\gTop<=b)->P w F'
def qbB (b:Nat)(cs:List Value)(t:TypeId):Asn:=
 ⟨fun w F=>Blk w b cs t/\F b,fun h hc hn=>⟨h.1.ch hc (hn b h.2),h.2⟩,fun h hF _=>⟨h.1,hF b h.2⟩⟩
def nilA:Asn:=⟨fun _ _=>True,fun _ _ _=>trivial,fun _ _ _=>trivial⟩
structure Gz (w0:World)(F0:Nat->Prop):Prop where
 top:gTop<=w0.heap.size
 lo:∀b,F0 b->gTop<=b/\b<w0.heap.size
theorem Gz.gt {w0:World}{F0:Nat->Prop}(h:Gz w0 F0){b:Nat}(hb:F0 b\/w0.heap.size<=b):gTop<=b:=hb.elim (fun h'=>(h.lo b h').1) (iq h.top)
theorem Asn.to {A:Asn}{w:World}{F F':Nat->Prop}(h:A.P w F)(e:∀b,F b↔F' b):A.P w F':=by
 obtain rfl:F=F':=funext fun b=>propext (e b);exact h
structure Sep (w0:World)(F0:Nat->Prop)(w:World)(l:List Asn):Prop where
 ch:Ch F0 w0 w
 ex:∃F:Nat->Nat->Prop,(∀(i:Nat) (A:Asn),l[i]? =some A->A.P w (F i))/\(∀i j,i≠j-> ∀b,F i b-> ¬F j b)/\ ∀i b,F i b->(F0 b\/w0.heap.size<=b)/\b<w.heap.size
section
variable {w0 w w':World}{F0:Nat->Prop}{l:List Asn}{A A':Asn}{i:Nat}
theorem Sep.nil (w:World):Sep w (fun _=>False) w []:=⟨Ch.refl _ _,fun _ _=>False,fun i x e=>by simp at e,fun _ _ _ _ h=>h.elim,fun _ _ h=>h.elim⟩
theorem Sep.one {F:Nat->Prop}(h:A.P w F)(hF:∀b,F b->b<w.heap.size):Sep w F w [A]:=by
 refine⟨Ch.refl _ _,fun i b=>i=0/\F b,fun i x e=>?_,fun i j a b hb c=>a (hb.1.trans c.1.symm),fun i b hb=>⟨.inl hb.2,hF b hb.2⟩⟩;cases i with
 |zero=>
  obtain rfl:=ia e;exact Asn.to h fun b=>⟨fun hb=>⟨rfl,hb⟩,fun hb=>hb.2⟩
 |succ i=>simp at e
theorem Sep.same (h:Sep w0 F0 w l)(hc:Ch (fun _=>False) w w'):Sep w0 F0 w' l:=by
 obtain⟨F,c,d,a⟩:=h.ex;exact⟨h.ch.trans hc (fun _ _ h=>h.elim),F,fun i A e=>A.ch (c i A e) hc (fun _ _ h=>h),d,fun i b hb=>⟨(a i b hb).1,ic (a i b hb).2 hc.size⟩⟩
theorem Sep.upd (h:Sep w0 F0 w l)(hi:l[i]? =some A)(F:Nat->Nat->Prop)(h1:∀(i:Nat) (A:Asn),l[i]? =some A->A.P w (F i))(h2:∀i j,i≠j-> ∀b,F i b-> ¬F j b)(h3:∀i b,F i b->(F0 b\/w0.heap.size<=b)/\b<w.heap.size)(hA:A'.P w' (more (F i) w w'))(hc:Ch (F i) w w'):Sep w0 F0 w' (l.set i A'):=by
 have d:i<l.length:=(io.1 hi).1;have hz:=hc.size;have g:=h.ch.size;refine⟨h.ch.trans hc fun b hb a=>(h3 i b a).1.elim id fun h=>by omega,fun j b=>if j=i then more (F i) w w' b else F j b,fun j x e=>?_,fun j k c b hb a=>?_,fun j b hb=>?_⟩
 ·by_cases hj:j=i
  ·subst hj
   rw[jq d]at e;obtain rfl:=ia e;simp only[if_true];exact hA
  ·rw[jo (fun h=>hj h.symm)]at e
   simp only[if_neg hj];exact x.ch (h1 j x e) hc fun b hb=>h2 j i hj b hb
 ·dsimp only at hb a
  split at hb
  ·rename_i e
   rw[if_neg (fun h=>c (e.trans h.symm))]at a;rcases hb with hb|hb
   ·exact h2 i k (e▸c) b hb a
   ·have:=(h3 k b a).2;omega
  ·split at a
   ·rename_i e
    rcases a with a|a
    ·exact h2 j i (e▸c) b hb a
    ·have:=(h3 j b hb).2;omega
   ·exact h2 j k c b hb a
 ·dsimp only at hb
  split at hb
  ·rcases hb with hb|hb
   ·have:=h3 i b hb;exact⟨this.1,by omega⟩
   ·exact⟨.inr (by omega),hb.2⟩
  ·have:=h3 j b hb;exact⟨this.1,by omega⟩
theorem Sep.add (h:Sep w0 F0 w l){G:Nat->Prop}(hA:A.P w' G)(hG:∀b,G b->w.heap.size<=b/\b<w'.heap.size)(hc:Ch (fun _=>False) w w'):Sep w0 F0 w' (l++[A]):=by
 have h':=h.same hc;obtain⟨F,g,m,c⟩:=h.ex;have hz:=hc.size;have p:=h.ch.size;refine⟨h'.ch,fun j b=>if j=l.length then G b else j<l.length/\F j b,fun j x e=>?_,fun j k n b hb a=>?_,fun j b hb=>?_⟩
 ·rcases iL j l.length with hj|hj
  ·rw[iw hj]at e
   exact Asn.to (x.ch (g j x e) hc (fun _ _ h=>h)) fun b=>by dsimp only;rw[if_neg (by omega)];exact⟨fun hb=>⟨hj,hb⟩,fun hb=>hb.2⟩
  ·rw[iF hj]at e
   rcases jm (j-l.length)with d|d
   ·rw[d]at e
    obtain rfl:=ia e;obtain rfl:j=l.length:=by omega
    exact Asn.to hA fun b=>by dsimp only;rw[if_pos rfl]
   ·rw[jn (by simp only[iz,iP];omega)]at e;cases e
 ·dsimp only at hb a
  split at hb
  ·have o:=(hG b hb).1
   split at a
   ·omega
   ·have:=(c k b a.2).2;omega
  ·split at a
   ·have o:=(hG b a).1
    have:=(c j b hb.2).2;omega
   ·exact m j k n b hb.2 a.2
 ·dsimp only at hb
  split at hb
  ·have:=hG b hb;exact⟨.inr (by omega),this.2⟩
  ·have:=c j b hb.2;exact⟨this.1,by omega⟩
theorem Sep.ref {X:Type}{B:X->Asn}(h:Sep w0 F0 w l)(hi:l[i]? =some A)(hk:∀F,A.P w F-> ∃x,(B x).P w F):∃x,Sep w0 F0 w (l.set i (B x)):=by
 obtain⟨F,a,b,c⟩:=h.ex;obtain⟨x,hx⟩:=hk (F i) (a i A hi);have d:i<l.length:=(io.1 hi).1;refine⟨x,h.ch,F,fun j y e=>?_,b,c⟩;by_cases hj:j=i
 ·subst hj
  rw[jq d]at e;obtain rfl:=ia e;exact hx
 ·rw[jo (fun h=>hj h.symm)]at e
  exact a j y e
theorem Sep.only (h:Sep w0 F0 w l)(hi:l[i]? =some A)(hk:∀F,A.P w F->A'.P w F):Sep w0 F0 w [A']:=by
 obtain⟨F,a,m,c⟩:=h.ex;refine⟨h.ch,fun j b=>j=0/\F i b,fun j y e=>?_,fun j k d b hb g=>d (hb.1.trans g.1.symm),fun j b hb=>c i b hb.2⟩;cases j with
 |zero=>
  obtain rfl:=ia e;exact Asn.to (hk _ (a i A hi)) fun b=>⟨fun hb=>⟨rfl,hb⟩,fun hb=>hb.2⟩
 |succ j=>simp at e
theorem Sep.pre {l':List Asn}(h:Sep w0 F0 w (l++l')):Sep w0 F0 w l:=by
 obtain⟨F,a,b,c⟩:=h.ex;exact⟨h.ch,F,fun i x e=>a i x (by rw[iw (io.1 e).1];exact e),b,c⟩
theorem Sep.take (h:Sep w0 F0 w l)(n:Nat):Sep w0 F0 w (l.take n):=Sep.pre (l':=l.drop n) (by rw[iV];exact h)
theorem Sep.at (h:Sep w0 F0 w l)(hi:l[i]? =some A):∃F,A.P w F/\ ∀b,F b->b<w.heap.size:=by
 obtain⟨F,a,d,c⟩:=h.ex;exact⟨F i,a i A hi,fun b hb=>(c i b hb).2⟩
theorem Sep.fin (h:Sep w0 F0 w l)(hg:Gz w0 F0)(hi:l[i]? =some A):A.P w (more F0 w0 w)/\Ch F0 w0 w:=by
 obtain⟨F,d,e,c⟩:=h.ex;have hz:=h.ch.size;exact⟨A.mono (d i A hi) (fun b hb=>(c i b hb).1.elim .inl fun a=> .inr ⟨a,(c i b hb).2⟩) fun b hb=>hb.elim (fun a=>⟨ic (hg.lo b a).2 hz,(hg.lo b a).1⟩) fun a=>⟨a.2,iq hg.top a.1⟩,h.ch⟩
theorem Sep.b {b:Nat}{cs:List Value}{t:TypeId}(h:Sep w0 F0 w l)(i:Nat)(hi:l[i]? =some (qbB b cs t):=by rfl):Blk w b cs t:=by
 obtain⟨F,a,_⟩:=h.at hi;exact a.1
theorem Sep.c {b:Nat}{cs:List Value}{t:TypeId}(h:Sep w0 F0 w l)(i c:Nat)(hi:l[i]? =some (qbB b cs t):=by rfl)(hc:Nat.blt c cs.length=true:=by kernel_rfl):w.cell? ⟨b,c,none⟩=some (cs.getD c undef):=(h.b i hi).c c hc
theorem Sep.cs {b:Nat}{cs:List Value}{t:TypeId}(h:Sep w0 F0 w l)(i c n:Nat)(hi:l[i]? =some (qbB b cs t):=by rfl)(hn:Nat.ble (c+n) cs.length=true:=by kernel_rfl):qc6 (qcs b c ((cs.drop c).take n)) w:=(h.b i hi).cs c n hn
theorem Sep.set {b:Nat}{cs cs':List Value}{t:TypeId}(h:Sep w0 F0 w l)(hi:l[i]? =some (qbB b cs t))(hb:Blk w' b cs' t)(hc:Ch (fun k=>k=b) w w'):Sep w0 F0 w' (l.set i (qbB b cs' t)):=
 by
 obtain⟨F,h1,h2,h3⟩:=h.ex
 have hF:F i b:=(h1 i _ hi).2
 exact h.upd hi F h1 h2 h3 ⟨hb,.inl hF⟩ (hc.mono fun _ _ e=>e▸hF)
theorem Sep.nrm {b:Nat}{cs:List Value}{t:TypeId}(h:Sep w0 F0 w l)(i:Nat)(cs':List Value)(hi:l[i]? =some (qbB b cs t):=by rfl)(e:cs=cs':=by kernel_rfl):Sep w0 F0 w (l.set i (qbB b cs' t)):=by
 obtain⟨_,h⟩:=h.ref (B:=fun _:Unit=>qbB b cs' t) hi fun _ hA=>⟨(),e▸hA⟩
 exact h
theorem Sep.alloc {b:Nat}{cs:List Value}{t:TypeId}(h:Sep w0 F0 w l)(hb:Blk w' b cs t)(e:b=w.heap.size)(hc:Ch (fun _=>False) w w'):Sep w0 F0 w' (l++[qbB b cs t]):=
 h.add (G:=fun k=>k=b) ⟨hb,rfl⟩ (fun k hk=>⟨by omega,by have:=hb.lt;omega⟩) hc
theorem Sep.rd {b o:Nat}{ys:List Value}(h:Sep w0 (fun _=>False) w l)(hr:Rd w0 (some ⟨b,o,none⟩) ys):Rd w (some ⟨b,o,none⟩) ys:=hr.ch h.ch fun _ _ h=>h
theorem Sep.look {P:Program}{k:FuncId}{args:Array Value}{v:Value}(h:Sep w0 F0 w l)(hk:Calls P k args w (RQ v w)):Calls P k args w fun e w'=>e= .returned v/\Sep w0 F0 w' l:=
 hk.mono fun _ _ ⟨he,hc⟩=>⟨he,h.same hc⟩
theorem Sep.step {P:Program}{k:FuncId}{args:Array Value}{v:Value}(h:Sep w0 F0 w l)(i:Nat)(hk:∀F,A.P w F->(∀b,F b->(F0 b\/w0.heap.size<=b)/\b<w.heap.size)->Calls P k args w fun e w'=>e= .returned v/\A'.P w' (more F w w')/\Ch F w w')(hi:l[i]? =some A:=by rfl):Calls P k args w fun e w'=>e= .returned v/\Sep w0 F0 w' (l.set i A'):=by
 obtain⟨F,a,d,c⟩:=h.ex;exact(hk (F i) (a i A hi) (c i)).mono fun e w' ⟨he,hA,hc⟩=>⟨he,h.upd hi F a d c hA hc⟩
theorem Sep.stepV {P:Program}{k:FuncId}{args:Array Value}(h:Sep w0 F0 w l)(i:Nat)(hk:∀F,A.P w F->(∀b,F b->(F0 b\/w0.heap.size<=b)/\b<w.heap.size)->Calls P k args w fun e w'=> ∃v,e= .returned v/\A'.P w' (more F w w')/\Ch F w w')(hi:l[i]? =some A:=by rfl):Calls P k args w fun e w'=> ∃v,e= .returned v/\Sep w0 F0 w' (l.set i A'):=by
 obtain⟨F,a,d,c⟩:=h.ex;exact(hk (F i) (a i A hi) (c i)).mono fun e w' ⟨v,he,hA,hc⟩=>⟨v,he,h.upd hi F a d c hA hc⟩
theorem Sep.new {P:Program}{k:FuncId}{args:Array Value}{X:Type}{r:X->Value}{A:X->Asn}(h:Sep w0 F0 w l)(hk:Calls P k args w fun e w'=> ∃x,e= .returned (r x)/\(∃F,(A x).P w' F/\ ∀b,F b->w.heap.size<=b/\b<w'.heap.size)/\Ch (fun _=>False) w w'):Calls P k args w fun e w'=> ∃x,e= .returned (r x)/\Sep w0 F0 w' (l++[A x]):=
 hk.mono fun _ _ ⟨x,he,⟨F,hA,hF⟩,hc⟩=>⟨x,he,h.add hA hF hc⟩
end
section
variable {P:Program}{N:Nat}{ops:Array Oper}{Q:Exit->Act->World->Prop}{f:Fr}{k:Nat}{K:Act->World->Prop}{w0 w:World}{F0:Nat->Prop}{l:List Asn}
theorem zS {b:Nat}{cs:List Value}{T:TypeId}(h:Sep w0 F0 w l)(i:Nat)(cs':List Value)(hK:∀w',Sep w0 F0 w' (l.set i (qbB b cs' T))-> ∀a',Has N (pushd (dO ops k) undef f) a'->K a' w')
  (hs:storeAt P N ops f k=some (b,sP P N ops f k,sV P N ops f k,dO ops k):=by kernel_rfl) (hi:l[i]? =some (qbB b cs T):=by rfl) (hfit:Nat.ble (sP P N ops f k+(sV P N ops f k).length) cs.length=true:=by kernel_rfl) (he:put cs (sP P N ops f k) (sV P N ops f k)=cs':=by kernel_rfl):∀a,Has N f a->wpOp P ops Q k K a w:=
 yS (h.b i hi) (fun w' hB hc=>hK w' (h.set hi (hB.to he) hc)) hs hfit
theorem zs {b:Nat}{cs:List Value}{T:TypeId}(h:Sep w0 F0 w l)(i:Nat)(hK:∀w',Sep w0 F0 w' (l.set i (qbB b (put cs (sP P N ops f k) (sV P N ops f k)) T))-> ∀a',Has N (pushd (dO ops k) undef f) a'->K a' w')
  (hs:storeAt P N ops f k=some (b,sP P N ops f k,sV P N ops f k,dO ops k):=by kernel_rfl) (hi:l[i]? =some (qbB b cs T):=by rfl) (hfit:Nat.ble (sP P N ops f k+(sV P N ops f k).length) cs.length=true:=by kernel_rfl):∀a,Has N f a->wpOp P ops Q k K a w:=
 yS (h.b i hi) (fun w' hB hc=>hK w' (h.set hi hB hc)) hs hfit
theorem zN (cs:List Value)(t:TypeId)(h:Sep w0 F0 w l)(hK:∀w' b,Sep w0 F0 w' (l++[qbB b cs t])-> ∀a',Has N (pushd (dO ops k) (.pointer (some ⟨b,0,none⟩)) f) a'->K a' w')
  (hs:newAt P N ops f k=some (cs,t,dO ops k):=by kernel_rfl):∀a,Has N f a->wpOp P ops Q k K a w:=yN cs t (fun w' b e _ hB hc=>hK w' b (h.alloc hB e hc)) hs
theorem zB (cs:List Value)(t:TypeId)(n:Nat)(h:Sep w0 F0 w l)(hK:∀w' b,Sep w0 F0 w' (l++[qbB b cs t])-> ∀a',Has N (pushd (dO ops k) (.slice (some ⟨b,0,none⟩) n n) f) a'->K a' w')
  (hs:bsAt P N ops f k=some (cs,t,n,dO ops k):=by kernel_rfl):∀a,Has N f a->wpOp P ops Q k K a w:=yB cs t n (fun w' b e _ hB hc=>hK w' b (h.alloc hB e hc)) hs
def SepOn (w0:World)(F0:Nat->Prop)(l:List Asn)(is:List Nat)(u:World):Prop:= ∃l',Sep w0 F0 u l'/\is.map (fun i=>l'[i]?)=is.map (fun i=>l[i]?)
theorem Sep.on {is:List Nat}(h:Sep w0 F0 w l):SepOn w0 F0 l is w:=⟨l,h,rfl⟩
def Agr (is:List Nat)(l l':List Asn):Prop:=is.map (fun i=>l'[i]?)=is.map (fun i=>l[i]?)
theorem Agr.refl {is:List Nat}:Agr is l l:=rfl
theorem Agr.set {is:List Nat}{i:Nat}{A:Asn}(h:is.contains i=false):Agr is l (l.set i A):=jA fun j hj=>by
 rw[jo (fun e=>by subst e;rw[List.contains_iff_mem.2 hj]at h;cases h)]
theorem Agr.app {is:List Nat}{A:Asn}(h:(is.all fun i=>Nat.blt i l.length)=true):Agr is l (l++[A]):=jA fun j hj=>by
 rw[iw (by have:=j3.1 h j hj;simpa[Nat.blt_eq]using this)]
theorem SepOn.b {is:List Nat}{u:World}{b:Nat}{cs:List Value}{t:TypeId}(h:SepOn w0 F0 l is u)(i:Nat)(hm:is.contains i=true:=by rfl)(hi:l[i]? =some (qbB b cs t):=by rfl):Blk u b cs t:=by
 obtain⟨l',h,e⟩:=h;have:=jE.1 e i (by simpa using hm);exact h.b i (this.trans hi)
theorem SepOn.c {is:List Nat}{u:World}{b:Nat}{cs:List Value}{t:TypeId}(h:SepOn w0 F0 l is u)(i c:Nat)(hm:is.contains i=true:=by rfl)(hi:l[i]? =some (qbB b cs t):=by rfl)(hc:Nat.blt c cs.length=true:=by kernel_rfl):u.cell? ⟨b,c,none⟩=some (cs.getD c undef):=(h.b i hm hi).c c hc
theorem SepOn.cs {is:List Nat}{u:World}{b:Nat}{cs:List Value}{t:TypeId}(h:SepOn w0 F0 l is u)(i c n:Nat)(hm:is.contains i=true:=by rfl)(hi:l[i]? =some (qbB b cs t):=by rfl)(hn:Nat.ble (c+n) cs.length=true:=by kernel_rfl):qc6 (qcs b c ((cs.drop c).take n)) u:=(h.b i hm hi).cs c n hn
theorem zD {id:Nat}(kill:List Nat)(h:Sep w0 F0 w l)(hK:∀w',Sep w0 F0 w' l->WD P N ops (Calm Q) kill (fun u=>u=w') [] f w')(hm:P.follows .mixedOrders=true:=by kernel_rfl):WC P N Q (.region id ops true) f w:=qoj kill hm fun w' _ hc=>hK w' (h.same hc)
theorem zDC {id:Nat}(kill is:List Nat)(h:Sep w0 F0 w l)(hK:∀w',Sep w0 F0 w' l->WD P N ops (Calm Q) kill (SepOn w0 F0 l is) [] f w')(hm:P.follows .mixedOrders=true:=by kernel_rfl):WC P N Q (.region id ops true) f w:=x_drawnF kill _ hm fun w' _ hc=>hK w' (h.same hc)
theorem zK {kill:List Nat}{done:List Nat}{is:List Nat}(h:Sep w0 F0 w l)(hK:WD P N ops Q kill (SepOn w0 F0 l is) done f w):∀a,Has N f a-> ∃G:World->Prop,G w/\qaD P ops Q kill G (ops.size-done.length) (qY ops.size done) a w:=fun a ha=>⟨_,h.on,hK a ha⟩
theorem zHe {kill:List Nat}{done:List Nat}{is:List Nat}{l':List Asn}(h:Sep w0 F0 w l')(hK:WD P N ops Q kill (SepOn w0 F0 l' is) done f w)(e:Agr is l l'):∀a,Has N f a-> ∃G:World->Prop,(∀u,G u->SepOn w0 F0 l is u)/\G w/\qaD P ops Q kill G (ops.size-done.length) (qY ops.size done) a w:=
 fun a ha=>⟨_,fun _ ⟨l2,h2,e2⟩=>⟨l2,h2,e2.trans e⟩,h.on,hK a ha⟩
theorem zH {kill:List Nat}{done:List Nat}{is:List Nat}(h:Sep w0 F0 w l)(hK:WD P N ops Q kill (SepOn w0 F0 l is) done f w):∀a,Has N f a-> ∃G:World->Prop,(∀u,G u->SepOn w0 F0 l is u)/\G w/\qaD P ops Q kill G (ops.size-done.length) (qY ops.size done) a w:=zHe h hK .refl
theorem zHs {kill:List Nat}{done:List Nat}{is:List Nat}{i:Nat}{A:Asn}(h:Sep w0 F0 w (l.set i A))(hK:WD P N ops Q kill (SepOn w0 F0 (l.set i A) is) done f w)(e:is.contains i=false:=by rfl):∀a,Has N f a-> ∃G:World->Prop,(∀u,G u->SepOn w0 F0 l is u)/\G w/\qaD P ops Q kill G (ops.size-done.length) (qY ops.size done) a w:=zHe h hK (.set e)
theorem zHa {kill:List Nat}{done:List Nat}{is:List Nat}{A:Asn}(h:Sep w0 F0 w (l++[A]))(hK:WD P N ops Q kill (SepOn w0 F0 (l++[A]) is) done f w)(e:(is.all fun i=>Nat.blt i l.length)=true:=by kernel_rfl):∀a,Has N f a-> ∃G:World->Prop,(∀u,G u->SepOn w0 F0 l is u)/\G w/\qaD P ops Q kill G (ops.size-done.length) (qY ops.size done) a w:=zHe h hK (.app e)
end
theorem qjj (s:Sty)(w:World):CP 144 [.agg #[.bool s.bold,.bool s.under,.bool s.turned,iX s.fore,iX s.back]].toArray w (RQ (.agg (qB s).vals.toArray) w):=by
 refine yA Tryz.func144 rfl<|ysr<|yo (yN [.bool s.bold,.bool s.under,.bool s.turned,iX s.fore,iX s.back] 84 fun u v f x g j=>?_);have y:=zn f (zm w);have b:=zu (zm w) j iZ;refine yo (yN [rX 0,xF,xF,xF,iX 0,iX 0] 159 fun A k m B n d=>?_);have C:=zn m b;have o:=zu b d iZ;have p:=g.ch d id;refine ye<|ysr<|yp 4 [] (.l (p.c 4) .z)<|yo (yT [rX 32,xF,xF,xF,iX 0,iX s.back] n fun D q r=>?_);have t:=zu o r (fun i hi (h:i=k)=>by omega);refine ye<|q9 (qfZ (.agg #[rX 32,xF,xF,xF,iX 0,iX s.back]) (.a (q.cs 0 6) .z) ?_);exact⟨rfl,Up.ch t⟩
theorem qjk (s:Sty)(w:World):CP 135 [.agg #[.bool s.bold,.bool s.under,.bool s.turned,iX s.fore,iX s.back]].toArray w (RQ (.bool (qD s)) w):=by
 refine yA Tryz.func135 rfl<|ysr<|yo (yN [.bool s.bold,.bool s.under,.bool s.turned,iX s.fore,iX s.back] 84 fun j k d m a f=>?_);have n:=zn d (zm w);have b:=zu (zm w) f iZ;refine yz 2<|ysr<|yp 4 [] (.l (a.c 3) .z)<|yw [6] (rM 0 s.fore) (fun g=>?_) fun g=>?_
 ·refine yp 9 [] (.l (a.c 3) .z)<|yw [11] (rM s.fore 8) (fun h=>?_) fun h=>?_
  ·refine yp 14 [] (.l (a.c 4) .z)<|yw [16] (rM 0 s.back) (fun i=>?_) fun i=>?_
   ·refine yp 19 [] (.l (a.c 4) .z)<|ye<|q9 (yR1 (.bool (decide (s.back<=8))) ?_);refine⟨?_,Up.ch b⟩;refine zc ?_;rw[iQ];simp only[qD,ii,ip,iv,true_iff,ji,iff_true,iff_false,not_and];omega
   refine yz 19<|q9 (yR1 (xF) ?_);refine⟨?_,Up.ch b⟩;refine zc ?_;rw[iQ];simp only[qD,ii,ip,iv,true_iff,ji,iff_true,iff_false,not_and];omega
  refine yz 19<|q9 (yR1 (xF) ?_);refine⟨?_,Up.ch b⟩;refine zc ?_;rw[iQ];simp only[qD,ii,ip,iv,true_iff,ji,iff_true,iff_false,not_and];omega
 refine yz 19<|q9 (yR1 (xF) ?_);refine⟨?_,Up.ch b⟩;refine zc ?_;rw[iQ];simp only[qD,ii,ip,iv,true_iff,ji,iff_true,iff_false,not_and];omega
theorem qlG (c:Cel)(w:World):CP 170 [.agg #[rX c.rune,.bool c.sty.bold,.bool c.sty.under,.bool c.sty.turned,iX c.sty.fore,iX c.sty.back]].toArray w (RQ (.bool (qkE c)) w):=by
 refine yA Tryz.func170 rfl<|ysr<|yo (yN [rX c.rune,.bool c.sty.bold,.bool c.sty.under,.bool c.sty.turned,iX c.sty.fore,iX c.sty.back] 159 fun o p g q b h=>?_);have r:=zn g (zm w);have i:=zu (zm w) h iZ;refine yz 2<|ysr<|yp 2 [] (.l (b.c 0) .z)<|yo (yQ (qcJ c.rune _) fun s hq=>?_);have d:=qc8 hq;clear hq;have f:=zu i d iZ;have j:=b.ch d id;refine yq 4<|yw [6] (rY (qbP c.rune)) (fun k=>?_) fun k=>?_
 ·refine yp 6 [] (.a (j.cs 1 5) .z)<|yo (yQ (qjk c.sty _) fun t m=>?_);have n:=zu f m iZ;refine yz 9<|q9 (yR1 (.bool (qD c.sty)) ?_);exact⟨by simp[qkE, *],Up.ch n⟩
 refine yz 9<|q9 (yR1 (xF) ?_);exact⟨by simp[qkE, *],Up.ch f⟩
theorem qcK (b n cap:Nat)(l:List Cel)(i:Int)(w:World)(hT:qai w)(hr:Rd w (some ⟨b,0,none⟩) (qan l))(hb:b<w.heap.size)(hn:l.length=n)(hnb:n<=1000000)(hi: -10<=i/\i<=1000000):CP 169 [.slice (some ⟨b,0,none⟩) n cap,iX i].toArray w (RQ (.bool (qZ l i)) w):=by
 refine yA Tryz.func169 rfl<|yx 1<|ys<|yD [15] fun q r c=>?_;have d:=zu (zm w) c iZ;have j:=qi c hT id id;have f:=Ch.rd c hr id;refine yd (uL 0 3) [] .z<|yv [7] (rM 0 i) (fun k=>?_) fun k=>?_
 ·refine yd (uL 3 7) [] (.q6 (i+1) .z)<|yv [14] (rL (i+1) (n:Int)) (fun o=>?_) fun o=>?_
  ·refine yd (uL 10 5) [] (.i i (n) (.l (qes (i:=i) f (by omega) (by omega)) .z))<|yK 15 (yQ (qbK (gc l i).rune _ j.1) fun s hq=>?_);have g:=qc8 hq;clear hq;have h:=zu d g iZ;have a:=Ch.rd g f id;refine q8<|yd [16,17] [] .z<|yv [22] (rY (qb1 (gc l i).rune)) (fun p=>?_) fun p=>?_
   ·refine yd (uL 18 14) [] (.q6 (i+1) (.i (i+1) (n) (.m (qes (i:=(i+1)) a (by omega) (by omega)) (.m (qet (i:=(i+1)) a (by omega) (by omega)) (.m (qd0 (i:=(i+1)) a (by omega) (by omega)) (.m (qc7 (i:=(i+1)) a (by omega) (by omega)) (.m (qeu (i:=(i+1)) a (by omega) (by omega)) (.m (qev (i:=(i+1)) a (by omega) (by omega)) (.e (.i i (n) (.m (qet (i:=i) a (by omega) (by omega)) (.m (qd0 (i:=i) a (by omega) (by omega)) (.m (qc7 (i:=i) a (by omega) (by omega)) (.m (qeu (i:=i) a (by omega) (by omega)) (.m (qev (i:=i) a (by omega) (by omega)) (.e .z))))))))))))))))<|yDe (nS ?_);refine q9 (yR1 (.bool ((((gc l (i+1)).rune:Int)==0)&&((((gc l (i+1)).sty.bold==(gc l i).sty.bold)&&(((gc l (i+1)).sty.under==(gc l i).sty.under)&&(((gc l (i+1)).sty.turned==(gc l i).sty.turned)&&((((gc l (i+1)).sty.fore:Int)==(gc l i).sty.fore)&&((((gc l (i+1)).sty.back:Int)==(gc l i).sty.back)&&true)))))&&true))) ?_);refine⟨zc ?_,Up.ch h⟩;refine(qor (gc l (i+1)) ⟨0,(gc l i).sty⟩).trans ?_;unfold qZ;rw[hn];simp[*]
   refine yd (uL 18 14) [] .z<|yDe (nS ?_);refine q9 (yR1 (xF) ?_);refine⟨zc ?_,Up.ch h⟩;unfold qZ;rw[hn];simp[*]<;>omega
  refine yd (uL 10 22) [] .z<|yDe (nS ?_);refine q9 (yR1 (xF) ?_);refine⟨zc ?_,Up.ch d⟩;unfold qZ;rw[hn];simp[*]<;>omega
 refine yd (uL 3 29) [] .z<|yDe (nS ?_);refine q9 (yR1 (xF) ?_);refine⟨zc ?_,Up.ch d⟩;unfold qZ;rw[hn];simp[*]<;>omega
theorem qey (b n cap:Nat)(l:List Cel)(w:World)(hr:Rd w (some ⟨b,0,none⟩) (qan l))(hb:b<w.heap.size)(hn:l.length=n)(hnb:n<=1000000):CP 100 [.slice (some ⟨b,0,none⟩) n cap].toArray w fun e w'=>
 ∃g cap',e= .returned (.slice (some ⟨g,0,none⟩) n cap')/\LineAt w' g l cap'/\w.heap.size<=g/\Ch (fun _=>False) w w':=by
 refine yA Tryz.func100 rfl<|yx 1<|ys<|yx 2<|ycf<|yk<|ysr<|yo (e_bs0 159 (some 5) (by kernel_rfl) ?_);intro x c o y p k;have z:=zn o (zm w);have m:=zu (zm w) k iZ;have q:=Ch.rd k hr id;refine yq 2 ?_;refine yo (qaE 159 6 32 (some c) 0 0 [] (some ⟨b,0,none⟩) n cap (qan l) (some 7) n (iJ _) (qan l) rfl (by kernel_rfl) (Own.blk p rfl (ir _)) q (by rw[qaO,hn]) (by first|rfl|exact qaY _) (fun h=>by cases h) (by constructor<;>(first|omega|(simp only[maxLen];omega))) ?_);intro r s d t f A j;obtain⟨a,rfl⟩:∃g,s=some g:=by rcases f with h|⟨g,h,_⟩<;>exact⟨_,h⟩
 have B:Df b a:=qbs f (fun h=>(fun(h:b=c)=>by have:=(ic hb (zzs (zm w)));omega) (zi h).symm) (ic hb (zzs m));replace j:=qif j;have u:=zu m j (fun i hi (h:i=c)=>by omega);have v:LineAt r a l d:=by unfold LineAt;rw[hn];exact t
 refine yz 4<|q9 (yR1 (.slice (some ⟨a,0,none⟩) n d) ?_);exact⟨a,d,rfl,v,qlF f (by omega) (by have:=zzs (zm w);omega),Up.ch u⟩
theorem qfl (l:List Cel):∀(k:Nat) (i:Int),(k:Int)<=i->gc (qbw l k) i=gc l i
  |0,_,_=>rfl
  |k+1,i,h=>by
    rw[<-qfl l k i (by omega)]
    show gc ((qbw l k).set k _) i=_
    unfold gc
    rw[List.getD,List.getD,jo (by omega)]
theorem qij (l:List Cel)(i:Int)(h:((gc l i).rune=0/\qZ l (i-1)=false)\/(qb1 (gc l i).rune=true/\qZ l i=false)):qea l i=⟨32,(gc l i).sty⟩:=by
 unfold qea;rw[if_pos (by rcases h with⟨a,b⟩|⟨a,b⟩<;>simp[a,b])]
theorem qez (l:List Cel)(i:Int)(h:¬((gc l i).rune=0/\qZ l (i-1)=false))(h':¬(qb1 (gc l i).rune=true/\qZ l i=false)):qea l i=gc l i:=by
 unfold qea;rw[if_neg (by simp only[jx,ii,ip,ju];exact fun a=>a.elim h h')]
theorem qeA (l:List Cel)(k:Nat)(hk:k<l.length)(h:qea l (k:Int)=gc l (k:Int)):qbw l (k+1)=qbw l k:=by
 show(qbw l k).set k _=_;rw[h,<-qfl l k k (by omega)];have hl:k<(qbw l k).length:=by rw[qba];exact hk
 simp[gc,List.getD,ig hl]
theorem qik (l:List Cel)(k:Nat)(h:qea l (k:Int)=⟨32,(gc l (k:Int)).sty⟩):qbw l (k+1)=(qbw l k).set (k:Int).toNat (Cel.mk 32 (gc (qbw l k) (k:Int)).sty):=by
 rw[qfl l k k (by omega),<-h];rfl
theorem qeB (b n cap:Nat)(l:List Cel)(w:World)(hT:qai w)(hr:Rd w (some ⟨b,0,none⟩) (qan l))(hb:b<w.heap.size)(hn:l.length=n)(hnb:n<=1000000):CP 168 [.slice (some ⟨b,0,none⟩) n cap].toArray w fun e w'=>
 ∃g cap',e= .returned (.slice (some ⟨g,0,none⟩) n cap')/\LineAt w' g (qew l) cap'/\w.heap.size<=g/\Ch (fun _=>False) w w':=by
 refine yA Tryz.func168 rfl<|yx 1<|ysr<|yq 1<|yo (yC (qey b n cap l _ hr (ic hb (zzs (zm w))) hn (by omega)) ?_);rintro _ L ⟨d,q,rfl,Z,a0,A⟩;refine⟨_,rfl,?_⟩;have a1:w.heap.size<=d:=iq (zzs (zm w)) a0;have a2:Df b d:=(show¬b=d by have:=(ic hb (zzs (zm w)));omega)
 have a3:=zu (zm w) A iZ;have a4:=qi A hT id id;have a5:=Ch.rd A hr id;refine yz 3<|ys<|yx 3<|qa<|qV [0,3,8,9,10] (f':=[(0,.slice (some ⟨b,0,none⟩) n cap),(3,.slice (some ⟨d,0,none⟩) n q),(8,.slice (some ⟨b,0,none⟩) n cap),(9,iX (n:Int)),(10,iX 0)])<|qw (σ:=Nat) (fun k=>[(0,.slice (some ⟨b,0,none⟩) n cap),(3,.slice (some ⟨d,0,none⟩) n q),(8,.slice (some ⟨b,0,none⟩) n cap),(9,iX (n:Int)),(10,iX (k:Int))]) (fun k w=>k<=n/\LineAt w d (qbw l k) q/\Ch (· =d) L w) (fun k=>n-k) 0 rfl ?_ ?_
 ·exact⟨ir _,Z,Ch.refl _ _⟩
 intro k aM a6 aN f;obtain⟨aO,B,r⟩:=a6;have x:=zu a3 r (fun i hi (h:i=d)=>by omega);have a7:=qi r a4 (fun(h:qe3=d)=>by have:=qc4 hT;omega) (fun(h:qc3=d)=>by have:=qc4 hT;omega);have j:=Ch.rd r a5 a2;refine yx 1<|ys<|yc (rL (k:Int) (n:Int)) (fun a8=>?_) fun a8=>?_
 ·refine yk<|ys<|qa<|ysr<|yp 3 [] (.i (k:Int) (n) (.m (qes (i:=(k:Int)) j (by omega) (by omega)) (.m (qet (i:=(k:Int)) j (by omega) (by omega)) (.m (qd0 (i:=(k:Int)) j (by omega) (by omega)) (.m (qc7 (i:=(k:Int)) j (by omega) (by omega)) (.m (qeu (i:=(k:Int)) j (by omega) (by omega)) (.m (qev (i:=(k:Int)) j (by omega) (by omega)) (.e .z))))))))<|yo (yN [rX 0,xF,xF,xF,iX 0,iX 0] 159 fun aP o M aQ a9 s=>?_);have aR:=zn M x;have aS:L.heap.size<=o:=by rw[M];exact zzs r
  have aa:=zu x s iZ;have ab:=zt r s eZ;have ac:=qi s a7 id id;have ad:=Ch.rd s j id;have ae:=B.ch s id;refine yq 5<|yo (yT [rX (gc l (k:Int)).rune,.bool (gc l (k:Int)).sty.bold,.bool (gc l (k:Int)).sty.under,.bool (gc l (k:Int)).sty.turned,iX (gc l (k:Int)).sty.fore,iX (gc l (k:Int)).sty.back] a9 fun aT C t=>?_);have D:=zu aa t (fun i hi (h:i=o)=>by omega);have N:=zt ab t (fun i hi (h:i=o)=>by omega);have y:=qi t ac (fun(h:qe3=o)=>by have:=qc4 hT;omega) (fun(h:qc3=o)=>by have:=qc4 hT;omega);have E:=Ch.rd t ad (fun(h:b=o)=>by have:=(ic hb (zzs x));omega);have O:=ae.ch t (fun(h:d=o)=>by have:=B.lt;omega);refine ye<|ysr<|yp 4 [] (.l (C.c 0) .z)<|yw [18] (rE (gc l (k:Int)).rune 0) (fun af=>?_) fun af=>?_
  ·refine yp 7 [] (.q6 ((k:Int)-1) .z) ?_;refine yo (yQ (qcK b n cap l ((k:Int)-1) _ y E (ic hb (zzs D)) hn (by omega) (by constructor<;>omega)) fun aU p=>?_);have ag:=zu D p iZ;have P:=zt N p eZ;have Q:=qi p y id id;have ah:=Ch.rd p E id;have F:=O.ch p id;have ai:=C.ch p id;refine yq 11<|yw [25] (rN (rY (qZ l ((k:Int)-1)))) (fun aj=>?_) fun aj=>?_
   ·refine yz 21<|yct<|q7<|yp 4 [] (.i (k:Int) (n) .z) ?_;obtain⟨ak,al,G⟩:=F.blk;refine yo (qaL (0+((k:Int):Int).toNat*6) [rX 32] none (by kernel_rfl) G (qdP (qbw l k) ak (k:Int) (by omega) (by first|omega|(simp only[qba];omega)) (qc2 rfl)) ?_);intro aV G am;have an:=qoq F al (by omega) (by first|omega|(simp only[qba];omega)) 32 G;have ao:=zt P am iZ;refine yE (nB (nS ?_));refine q7<|yp 2 [] (.q6 ((k:Int)+1) .z)<|yE (fun a ha=>f (k+1) _ ⟨by omega,(by rw[qik l k (qij _ _ (by first|exact .inl ⟨by assumption,by assumption⟩|exact .inr ⟨by assumption,by assumption⟩))];exact an),ao⟩ (by show n-(k+1)<n-k;omega) a (ha.kp [0,3,8,9,10]))
   refine yp 13 [] (.l (ai.c 0) .z)<|yo (yQ (qbK (gc l (k:Int)).rune _ Q.1) fun aW hq=>?_);have u:=qc8 hq;clear hq;have ap:=zu ag u iZ;have R:=zt P u eZ;have aq:=qi u Q id id;have ar:=Ch.rd u ah id;have S:=F.ch u id;refine yq 15<|yw [29] (rY (qb1 (gc l (k:Int)).rune)) (fun au=>?_) fun au=>?_
   ·refine yq 17 ?_;refine yo (yQ (qcK b n cap l (k:Int) _ aq ar (ic hb (zzs ap)) hn (by omega) (by constructor<;>omega)) fun aX T=>?_);have U:=zt R T eZ;have H:=S.ch T id;refine yz 21<|yc (rN (rY (qZ l (k:Int)))) (fun av=>?_) fun av=>?_
    ·refine q7<|yp 4 [] (.i (k:Int) (n) .z) ?_;obtain⟨aw,ax,I⟩:=H.blk;refine yo (qaL (0+((k:Int):Int).toNat*6) [rX 32] none (by kernel_rfl) I (qdP (qbw l k) aw (k:Int) (by omega) (by first|omega|(simp only[qba];omega)) (qc2 rfl)) ?_);intro aY I ay;have az:=qoq H ax (by omega) (by first|omega|(simp only[qba];omega)) 32 I;have aA:=zt U ay iZ;refine yE (nB (nS ?_));refine q7<|yp 2 [] (.q6 ((k:Int)+1) .z)<|yE (fun a ha=>f (k+1) _ ⟨by omega,(by rw[qik l k (qij _ _ (by first|exact .inl ⟨by assumption,by assumption⟩|exact .inr ⟨by assumption,by assumption⟩))];exact az),aA⟩ (by show n-(k+1)<n-k;omega) a (ha.kp [0,3,8,9,10]))
    refine qo (nB (nS ?_));refine q7<|yp 2 [] (.q6 ((k:Int)+1) .z)<|yE (fun a ha=>f (k+1) _ ⟨by omega,(by rw[qeA l k (by omega) (qez _ _ (fun⟨a,b⟩=>by first|contradiction|exact absurd (a.symm.trans (by assumption:_=false)) (by decide)|exact absurd (b.symm.trans (by assumption:_=true)) (by decide)) (fun⟨a,b⟩=>by first|contradiction|exact absurd (a.symm.trans (by assumption:_=false)) (by decide)|exact absurd (b.symm.trans (by assumption:_=true)) (by decide)))];exact H),U⟩ (by show n-(k+1)<n-k;omega) a (ha.kp [0,3,8,9,10]))
   refine yz 21<|ycf<|qo (nB (nS ?_));refine q7<|yp 2 [] (.q6 ((k:Int)+1) .z)<|yE (fun a ha=>f (k+1) _ ⟨by omega,(by rw[qeA l k (by omega) (qez _ _ (fun⟨a,b⟩=>by first|contradiction|exact absurd (a.symm.trans (by assumption:_=false)) (by decide)|exact absurd (b.symm.trans (by assumption:_=true)) (by decide)) (fun⟨a,b⟩=>by first|contradiction|exact absurd (a.symm.trans (by assumption:_=false)) (by decide)|exact absurd (b.symm.trans (by assumption:_=true)) (by decide)))];exact S),R⟩ (by show n-(k+1)<n-k;omega) a (ha.kp [0,3,8,9,10]))
  refine yp 13 [] (.l (C.c 0) .z)<|yo (yQ (qbK (gc l (k:Int)).rune _ y.1) fun aZ hq=>?_);have v:=qc8 hq;clear hq;have aB:=zu D v iZ;have V:=zt N v eZ;have aC:=qi v y id id;have aD:=Ch.rd v E id;have W:=O.ch v id;refine yq 15<|yw [29] (rY (qb1 (gc l (k:Int)).rune)) (fun aE=>?_) fun aE=>?_
  ·refine yq 17 ?_;refine yo (yQ (qcK b n cap l (k:Int) _ aC aD (ic hb (zzs aB)) hn (by omega) (by constructor<;>omega)) fun b0 X=>?_);have Y:=zt V X eZ;have J:=W.ch X id;refine yz 21<|yc (rN (rY (qZ l (k:Int)))) (fun aF=>?_) fun aF=>?_
   ·refine q7<|yp 4 [] (.i (k:Int) (n) .z) ?_;obtain⟨aG,aH,K⟩:=J.blk;refine yo (qaL (0+((k:Int):Int).toNat*6) [rX 32] none (by kernel_rfl) K (qdP (qbw l k) aG (k:Int) (by omega) (by first|omega|(simp only[qba];omega)) (qc2 rfl)) ?_);intro b1 K aI;have aJ:=qoq J aH (by omega) (by first|omega|(simp only[qba];omega)) 32 K;have aK:=zt Y aI iZ;refine yE (nB (nS ?_));refine q7<|yp 2 [] (.q6 ((k:Int)+1) .z)<|yE (fun a ha=>f (k+1) _ ⟨by omega,(by rw[qik l k (qij _ _ (by first|exact .inl ⟨by assumption,by assumption⟩|exact .inr ⟨by assumption,by assumption⟩))];exact aJ),aK⟩ (by show n-(k+1)<n-k;omega) a (ha.kp [0,3,8,9,10]))
   refine qo (nB (nS ?_));refine q7<|yp 2 [] (.q6 ((k:Int)+1) .z)<|yE (fun a ha=>f (k+1) _ ⟨by omega,(by rw[qeA l k (by omega) (qez _ _ (fun⟨a,b⟩=>by first|contradiction|exact absurd (a.symm.trans (by assumption:_=false)) (by decide)|exact absurd (b.symm.trans (by assumption:_=true)) (by decide)) (fun⟨a,b⟩=>by first|contradiction|exact absurd (a.symm.trans (by assumption:_=false)) (by decide)|exact absurd (b.symm.trans (by assumption:_=true)) (by decide)))];exact J),Y⟩ (by show n-(k+1)<n-k;omega) a (ha.kp [0,3,8,9,10]))
  refine yz 21<|ycf<|qo (nB (nS ?_));refine q7<|yp 2 [] (.q6 ((k:Int)+1) .z)<|yE (fun a ha=>f (k+1) _ ⟨by omega,(by rw[qeA l k (by omega) (qez _ _ (fun⟨a,b⟩=>by first|contradiction|exact absurd (a.symm.trans (by assumption:_=false)) (by decide)|exact absurd (b.symm.trans (by assumption:_=true)) (by decide)) (fun⟨a,b⟩=>by first|contradiction|exact absurd (a.symm.trans (by assumption:_=false)) (by decide)|exact absurd (b.symm.trans (by assumption:_=true)) (by decide)))];exact W),V⟩ (by show n-(k+1)<n-k;omega) a (ha.kp [0,3,8,9,10]))
 have aL:k=n:=by omega
 refine qm (eS (qd (qb (nS ?_))));refine yx 2<|q9 (yR1 (.slice (some ⟨d,0,none⟩) n q) ?_);exact⟨d,q,rfl,by unfold qew;rw[hn,<-aL];exact B,a1,Up.ch x⟩
theorem qot (n:Int)(w:World)(h0:0<=n)(h1:n<=60):CP 194 [.int .u64 1,.int .u64 n].toArray w (RQ (.tuple #[.int .u64 0,.int .u64 n]) w):=by
 refine yA Tryz.func194 rfl<|yx 2<|yx 3<|ysr<|yp 3 [] (.p (q:=0<=(32:Int)) (by omega) .z)<|ye<|yx 3<|ysr<|yp 3 [] (.p (q:=0<=(32:Int)) (by omega) .z)<|ye<|yx 4<|ysr<|yp 7 [] (.p (q:=0<=(32:Int)) (by omega) .z)<|ye<|yx 3<|ysr<|yp 3 [] (.p (q:=0<=(32:Int)) (by omega) .z)<|ye<|yx 6<|ysr<|yp 9 [] (.p (q:=0<=(32:Int)) (by omega) .z)<|ye<|yx 4<|q9 (yR2 [.int .u64 (IntKind.wrap .u64 ((IntKind.wrap .u64 ((IntKind.wrap .u64 (0*(Int.fdiv n (2^min (32:Int).toNat (IntKind.bits .u64)))))+(Int.fdiv (IntKind.wrap .u64 ((IntKind.wrap .u64 (0*(qe .and .u64 n 4294967295)))+(Int.fdiv (IntKind.wrap .u64 (1*(qe .and .u64 n 4294967295))) (2^min (32:Int).toNat (IntKind.bits .u64))))) (2^min (32:Int).toNat (IntKind.bits .u64)))))+(Int.fdiv (IntKind.wrap .u64 ((qe .and .u64 (IntKind.wrap .u64 ((IntKind.wrap .u64 (0*(qe .and .u64 n 4294967295)))+(Int.fdiv (IntKind.wrap .u64 (1*(qe .and .u64 n 4294967295))) (2^min (32:Int).toNat (IntKind.bits .u64))))) 4294967295)+(IntKind.wrap .u64 (1*(Int.fdiv n (2^min (32:Int).toNat (IntKind.bits .u64))))))) (2^min (32:Int).toNat (IntKind.bits .u64))))),.int .u64 (IntKind.wrap .u64 (1*n))] .z ?_);refine⟨?_,Up.ch (zm w)⟩;obtain⟨k,rfl,hk⟩:∃k:Nat,n=(k:Int)/\k<61:=⟨n.toNat,by omega,by omega⟩
 have h:∀k,k<61->((IntKind.wrap .u64 ((IntKind.wrap .u64 ((IntKind.wrap .u64 (0*(Int.fdiv ((k:Nat):Int) (2^min (32:Int).toNat (IntKind.bits .u64)))))+(Int.fdiv (IntKind.wrap .u64 ((IntKind.wrap .u64 (0*(qe .and .u64 ((k:Nat):Int) 4294967295)))+(Int.fdiv (IntKind.wrap .u64 (1*(qe .and .u64 ((k:Nat):Int) 4294967295))) (2^min (32:Int).toNat (IntKind.bits .u64))))) (2^min (32:Int).toNat (IntKind.bits .u64)))))+(Int.fdiv (IntKind.wrap .u64 ((qe .and .u64 (IntKind.wrap .u64 ((IntKind.wrap .u64 (0*(qe .and .u64 ((k:Nat):Int) 4294967295)))+(Int.fdiv (IntKind.wrap .u64 (1*(qe .and .u64 ((k:Nat):Int) 4294967295))) (2^min (32:Int).toNat (IntKind.bits .u64))))) 4294967295)+(IntKind.wrap .u64 (1*(Int.fdiv ((k:Nat):Int) (2^min (32:Int).toNat (IntKind.bits .u64))))))) (2^min (32:Int).toNat (IntKind.bits .u64))))):Int)=0/\((IntKind.wrap .u64 (1*((k:Nat):Int))):Int)=((k:Nat):Int):=by decide+kernel
 rw[(h k hk).1,(h k hk).2]
theorem mul_any (n:Int)(w:World)(h0:0<=n)(h1:n<=60):CP 173 [.int .u64 1,.int .u64 n].toArray w (RQ (.tuple #[.int .u64 0,.int .u64 n]) w):=by
 refine yA Tryz.func173 rfl<|yx 2<|ys<|ycf<|yk<|ysr<|yq 2<|yo (yQ (qot n _ (by omega) (by omega)) fun c a=>?_);have b:=zu (zm w) a iZ;refine yz 8<|yx 4<|q9 (yR2 [.int .u64 0,.int .u64 n] .z ?_);exact⟨rfl,Up.ch b⟩
theorem qlH (k m:Nat)(c:Cel):qan (List.replicate k c)++qan (List.replicate m c)=qan (List.replicate (k+m) c):=by
 rw[<-qbL,List.replicate_append_replicate]
theorem qdo (k:Nat)(c:Cel):(qan (List.replicate k c)).length=k*6:=by rw[qaO,iu]
def RepTo (w:World)(g N:Nat)(c:Cel)(k:Nat):Prop:= ∃cs,Blk w g cs qdn/\cs.length=N*6/\cs.take (k*6)=qan (List.replicate k c)
theorem RepTo.lt {w:World}{g N k:Nat}{c:Cel}(h:RepTo w g N c k):g<w.heap.size:=by obtain⟨cs,hb,_⟩:=h;exact hb.lt
theorem RepTo.ch {w w':World}{g N k:Nat}{c:Cel}{B:Nat->Prop}(h:RepTo w g N c k)(hc:Ch B w w')(hn:¬B g):RepTo w' g N c k:=by
 obtain⟨cs,hb,a⟩:=h;exact⟨cs,hb.ch hc hn,a⟩
theorem rep_rd {w:World}{g m k:Nat}{c:Cel}{cs:List Value}(hb:Blk w g cs qdn)(ht:cs.take (k*6)=qan (List.replicate k c))(hm:m<=k):Rd w (some ⟨g,0,none⟩) (qan (List.replicate m c)):=by
 refine Rd.blk hb fun j hj=>?_;rw[qdo]at hj;have e:qan (List.replicate m c)=cs.take (m*6):=by
  have:=qlH m (k-m) c;rw[show m+(k-m)=k by omega,<-ht]at this;rw[show cs.take (m*6)=(cs.take (k*6)).take (m*6) by rw[List.take_take];congr 1;omega,<-this,<-qdo m c,jU]
 rw[e,iJ,j5,if_pos (by omega)]
theorem qou {w:World}{g N k m:Nat}{c:Cel}{cs:List Value}(hl:cs.length=N*6)(ht:cs.take (k*6)=qan (List.replicate k c))(hk:k+m<=N)
 (hb:Blk w g (put cs (0+k*6) (qan (List.replicate m c))) qdn):RepTo w g N c (k+m):=by
 rw[iJ]at hb;refine⟨_,hb,?_,?_⟩
 ·simp only[put,hJ,im,iG,qdo];omega
 unfold put;rw[ht,qlH,show(k+m)*6=(qan (List.replicate (k+m) c)).length from(qdo _ _).symm,jU]
theorem RepTo.line {w:World}{g N:Nat}{c:Cel}(h:RepTo w g N c N)(hN:N<=maxLen):LineAt w g (List.replicate N c) N:=by
 obtain⟨cs,hb,hl,ht⟩:=h;refine LineAt.of (r:=[]) ?_ (by simp) (by simp) hN;rw[iH,<-ht,je (by omega)];exact hb
theorem qmX (b cap:Nat)(c:Cel)(n:Int)(w:World)(hr:Rd w (some ⟨b,0,none⟩) (qan [c]))(hb:b<w.heap.size)(h0:1<=n)(h1:n<=60):CP 143 [.slice (some ⟨b,0,none⟩) 1 cap,iX n].toArray w fun e w'=>
 ∃g,e= .returned (.slice (some ⟨g,0,none⟩) n.toNat n.toNat)/\LineAt w' g (List.replicate n.toNat c) n.toNat/\w.heap.size<=g/\Ch (fun _=>False) w w':=by
 refine yA Tryz.func143 rfl<|yx 1<|ys<|yx 2<|yc (rL n 0) (fun C=>?_) fun C=>?_
 ·exfalso;omega
 refine yk<|ysr<|yp 5 [4] (.p (q:=InR .u64 n) (qao (by omega) (by omega)) .z)<|yo (yQ (mul_any n _ (by omega) (by omega)) fun a2 l=>?_);have o:=zu (zm w) l iZ;have D:=Ch.rd l hr id;refine yz 11<|ys<|yx 6<|yc (rL 9223372036854775807 n) (fun E=>?_) fun E=>?_
 ·exfalso;omega
 refine yk<|ysr<|yp 2 [] (.q6 n .z) ?_;refine yo (e_make 159 6 32 n.toNat n n (some 30) (by kernel_rfl) (by omega) (by omega) (by constructor<;>first|omega|(simp only[maxLen];omega)) ?_);intro F d a3 G s t;have a4:=zn G o;have H:=zu o t iZ;have I:=Ch.rd t D id;have J:RepTo F d n.toNat c 0:=by
  obtain⟨r,hr,hB⟩:=s.2.2.2.2 _ rfl;exact⟨_,hB,by rw[hJ,s.1,hr];omega,by rw[km];rfl⟩
 refine yz 4<|ysr<|yq 2 ?_;obtain⟨a5,K,u,L⟩:=J;refine yo (qdm 6 d (0+0*6) (n.toNat) (n.toNat) (some ⟨b,0,none⟩) 1 cap (qan (List.replicate (1) c)) (some 33) (1) (by omega) (by kernel_rfl) K I (qdo _ _) (qaY _) (by rw[qdo,u];omega) ?_);intro M N O;have P:=qou (k:=0) (m:=1) u L (by omega) N;have Q:=zu H O (fun i hi (h:i=d)=>by omega);refine yz 4<|ys<|qa<|qV [7,8] (f':=[(7,.slice (some ⟨d,0,none⟩) n.toNat n.toNat),(8,iX ((1:Nat):Int))])<|qw (σ:=Nat) (fun k=>[(7,.slice (some ⟨d,0,none⟩) n.toNat n.toNat),(8,iX (k:Int))]) (fun k w=>1<=k/\k<=n.toNat/\RepTo w d n.toNat c k/\Ch (· =d) M w) (fun k=>n.toNat-k) 1 rfl ?_ ?_
 ·exact⟨iE _,by omega,P,Ch.refl _ _⟩
 intro k a6 R a7 S;obtain⟨a8,a9,f,v⟩:=R;have T:=zu Q v (fun i hi (h:i=d)=>by omega);refine ys<|yx 4<|yc (rL (k:Int) (n.toNat:Int)) (fun U=>?_) fun U=>?_
 ·refine yk<|qa<|yD [7] fun aa ab x=>?_;have V:=zt v x eZ;have W:=f.ch x id;refine yd (uL 0 7) [3] (.j (k:Int) (n.toNat) (.p (q:=((k:Int):Int).toNat<n.toNat) (by omega) (.j (k:Int) (n.toNat) .z))) ?_;obtain⟨ac,y,A,B⟩:=W;refine yK 7 (qdm 6 d (0+k*6) (n.toNat-k) (n.toNat-k) (some ⟨d,0,none⟩) k n.toNat (qan (List.replicate (min k (n.toNat-k)) c)) (some 45) (min k (n.toNat-k)) (by omega) (by kernel_rfl) y (rep_rd y B (by omega)) (qdo _ _) (qaY _) (by rw[qdo,A];omega) ?_);intro ad X Y;have Z:=qou (k:=k) (m:=min k (n.toNat-k)) A B (by omega) X;have a0:=zt V Y iZ;refine q8<|yd [8,9] [] (.q6 ((k:Int)+((min k (n.toNat-k):Nat):Int)) .z)<|yDe (nB (fun a ha=>S (k+min k (n.toNat-k)) _ ⟨by omega,by omega,Z,a0⟩ (by show n.toNat-(k+min k (n.toNat-k))<n.toNat-k;omega) a (ha.kp [7,8])))
 have a1:k=n.toNat:=by omega
 refine qm (eS (qd (qb (nS ?_))));refine yx 2<|q9 (yR1 (.slice (some ⟨d,0,none⟩) n.toNat n.toNat) ?_);exact⟨d,rfl,RepTo.line (by rw[a1]at f;exact f) (by simp only[maxLen];omega),by omega,Up.ch T⟩
theorem qcL (n:Int)(s:Sty)(w:World)(h0:1<=n)(h1:n<=60):CP 119 [iX n,.agg #[.bool s.bold,.bool s.under,.bool s.turned,iX s.fore,iX s.back]].toArray w fun e w'=>
 ∃g,e= .returned (.slice (some ⟨g,0,none⟩) n.toNat n.toNat)/\LineAt w' g (List.replicate n.toNat (qB s)) n.toNat/\w.heap.size<=g/\Ch (fun _=>False) w w':=by
 refine yA Tryz.func119 rfl<|ysr<|yo (yN [.bool s.bold,.bool s.under,.bool s.turned,iX s.fore,iX s.back] 84 fun B f m C h o=>?_);have D:=zn m (zm w);have p:=zu (zm w) o iZ;refine yz 2<|ysr<|yp 1 [] (.a (h.cs 0 5) .z)<|yo (yQ (qjj s _) fun E i=>?_);have j:=zu p i iZ;have q:=h.ch i id;refine yo (yB [rX (qB s).rune,.bool (qB s).sty.bold,.bool (qB s).sty.under,.bool (qB s).sty.turned,iX (qB s).sty.fore,iX (qB s).sty.back] 159 1 fun F c r G d k=>?_);have H:=zn r j;have l:=zu j k iZ;have t:=q.ch k id;refine yq 4<|yo (yC (qmX c 1 (qB s) n _ (Rd.all d) d.lt (by omega) (by omega)) ?_);rintro _ I ⟨b,rfl,u,v,x⟩;refine⟨_,rfl,?_⟩;have y:w.heap.size<=b:=iq (zzs l) v;have J:Df f b:=(show¬f=b by have:=t.lt;omega)
 have K:Df c b:=(show¬c=b by have:=d.lt;omega)
 have A:=zu l x iZ;refine yz 6<|q9 (yR1 (.slice (some ⟨b,0,none⟩) (n:Int).toNat (n:Int).toNat) ?_);exact⟨b,rfl,u,y,Up.ch A⟩
def qj (n:Int):Int:=min (max n 1) 60
def qbC (G:Gr)(x y:Int):Bool:=decide (0<=x)&&decide (0<=y)&&decide (x<G.w)&&decide (y<G.h)
def qfg (G:Gr)(y:Int)(l:List Cel):Gr:=⟨G.w,G.h,G.lines.set y.toNat l⟩
def putL (W:Int)(l:List Cel)(x:Int)(c:Cel):List Cel:=
 if qb1 c.rune=true/\x+1<W then(l.set x.toNat c).set (x+1).toNat ⟨0,c.sty⟩else l.set x.toNat c
def qjl (G:Gr)(x y:Int)(c:Cel):Gr:=if qbC G x y=true/\qkE c=true then qfg G y (qew (putL G.w (gl G y) x c))else G
def qfQ (l:List Cel)(a:Int)(c:Cel):Nat->List Cel
 |0=>l
 |k+1=>(qfQ l a c k).set (a+(k:Int)).toNat c
theorem qaB (l:List Cel)(a:Int)(c:Cel)(k:Nat):(qfQ l a c k).length=l.length:=by
 induction k with
 |zero=>rfl
 |succ k ih=>simp[qfQ,ih]
def qgp (W:Int)(l:List Cel)(a b:Int)(s:Sty):List Cel:=qew (qfQ l (max a 0) (qB s) (min b W-max a 0).toNat)
def qb3 (G:Gr)(y a b:Int)(s:Sty):Gr:=if qbC G 0 y=true then qfg G y (qgp G.w (gl G y) a b s)else G
theorem qbg {l:List Cel}{i:Nat}{c:Cel}:(l.set i c).length=l.length:=iR
theorem there_iff {G:Gr}{x y:Int}:qbC G x y=true↔(0<=x/\0<=y)/\x<G.w/\y<G.h:=by
 unfold qbC;simp only[ii,ip];constructor<;>rintro h<;>omega
def qhi (l:List Cel)(x n:Int):List Cel:=l.take (x+n).toNat++(l.drop x.toNat).take (l.length-(x+n).toNat)++l.drop ((x+n).toNat+((l.drop x.toNat).take (l.length-(x+n).toNat)).length)
def qhj (l:List Cel)(x n:Int):List Cel:=l.take x.toNat++(l.drop (x+n).toNat).take (l.length-(x+n).toNat)++l.drop (x.toNat+((l.drop (x+n).toNat).take (l.length-(x+n).toNat)).length)
def qhk (G:Gr)(x y n:Int)(s:Sty):Gr:=
 if qbC G x y=true then qb3 (qfg G y (qhi (gl G y) x (min (max n 0) (G.w-x)))) y x (x+min (max n 0) (G.w-x)) s else G
def qil (G:Gr)(x y n:Int)(s:Sty):Gr:=
 if qbC G x y=true then qb3 (qfg G y (qhj (gl G y) x (min (max n 0) (G.w-x)))) y (G.w-min (max n 0) (G.w-x)) G.w s else G
theorem qjm {w w':World}{b cap lo:Nat}{l ys:List Cel}{r:List Value}(h:LineAt w b l cap)(hr:r.length=(cap-l.length)*6)(hlo:lo+ys.length<=l.length)
  (hb:Blk w' b (put (qan l++r) (if cap=lo then 0 else 0+lo*6) (qan ys)) qdn):LineAt w' b (l.take lo++ys++l.drop (lo+ys.length)) cap:=by
 have d:=h.2.1;have c:(l.take lo++ys++l.drop (lo+ys.length)).length=l.length:=by
  simp only[hJ,im,iG];omega
 refine LineAt.of (r:=r) ?_ (by rw[c];exact hr) (by rw[c];exact d) h.2.2.1;by_cases e:cap=lo
 ·have hy:ys=[]:=iy (by omega)
  subst hy;rw[if_pos e]at hb;have a:put (qan l++r) 0 (qan [])=qan l++r:=by simp[put,qan]
  have f:l.take lo++[]++l.drop (lo+([]:List Cel).length)=l:=by simp
  rw[f];rwa[a]at hb
 ·rw[if_neg e,iJ]at hb
  have a:qan l++r=qan (l.take lo)++qan ((l.drop lo).take ys.length)++(qan (l.drop (lo+ys.length))++r):=by
   rw[<-ie,<-qbL,<-qbL];congr 2;rw[ie,<-k7,iV,iV]
  rw[a,qkM _ _ _ _ _ (by rw[qaO,im];omega) (by rw[qaO,qaO,im,iG];omega)]at hb;rw[qbL,qbL];simpa[ie]using hb
theorem qjn {w:World}{b cap k m:Nat}{l:List Cel}(h:LineAt w b l cap)(hkm:m<=l.length-k):Rd w (some ⟨b,if cap=k then 0 else 0+k*6,none⟩) (qan ((l.drop k).take m)):=by
 have c:=h.2.1;by_cases e:cap=k
 ·have:(l.drop k).take m=[]:=iy (by rw[im,iG];omega)
  rw[this];exact Rd.nil _ _
 ·rw[if_neg e,iJ]
  have a:=h.rd;refine⟨(fun e=>by cases e),fun ad e j u hj=>?_⟩;obtain rfl:=ia e;rw[qaZ];have:=qcg a (k*6+j) u (by
   rw[<-qgn,<-qop,j5]at hj;split at hj
   ·rwa[jg]at hj
   ·cases hj)
  rwa[iJ]at this
theorem qjo {b cap lo:Nat}{l ys:List Cel}{r:List Value}{w:World}(h:LineAt w b l cap)(hlo:lo+ys.length<=l.length):(if cap=lo then 0 else 0+lo*6)+(qan ys).length<=(qan l++r).length:=by
 rw[hJ,qaO,qaO];split<;>omega
theorem qlI {w:World}{r cap:Nat}{rows:List Row}{y:Int}{x x':Row}(ho:Own w qbY 1 (some r) rows.length cap (rows.map Row.val))(hx:rows[y.toNat]? =some x)(hv:x'.val=x.val):
  Own w qbY 1 (some r) (rows.set y.toNat x').length cap ((rows.set y.toNat x').map Row.val):=by
 rw[iR,List.map_set,hv];have e:(rows.map Row.val).set y.toNat x.val=rows.map Row.val:=by
  obtain⟨hi,rfl⟩:=io.1 hx;apply List.ext_getElem?;intro j;rw[List.getElem?_set];split
  ·rename_i e
   subst e;simp[hi]
  ·rfl
 rwa[e]
theorem qeC (n:Int)(w:World):CP 118 [iX n].toArray w (RQ (iX (qj n)) w):=by
 refine yA Tryz.func118 rfl<|yx 1<|yx 4<|q9 (yR1 (iX (min ((max (n:Int) 1):Int) 60)) ?_);exact⟨rfl,Up.ch (zm w)⟩
theorem qeD (g:Nat)(G:Gr)(x y:Int){v:Value}(w:World)(h:Blk w g [iX G.w,iX G.h,v] qgo):CP 185 [pX g,iX x,iX y].toArray w (RQ (.bool (qbC G x y)) w):=by
 refine yA Tryz.func185 rfl<|yx 1<|ysr<|yq 3<|yw [9] (rM 0 x) (fun a=>?_) fun a=>?_
 ·refine yq 7<|yw [13] (rM 0 y) (fun b=>?_) fun b=>?_
  ·refine yp 15 [] (.l (h.c 0) .z)<|yw [21] (rL x G.w) (fun d=>?_) fun d=>?_
   ·refine yp 23 [] (.l (h.c 1) .z)<|ye<|q9 (yR1 (.bool (decide (y<G.h))) ?_);refine⟨?_,Up.ch (zm w)⟩;refine zc ?_;rw[iQ];simp only[qbC,ii,ip,iv,true_iff,ji,iff_true,iff_false,not_and];omega
   refine yz 23<|q9 (yR1 (xF) ?_);refine⟨?_,Up.ch (zm w)⟩;refine zc ?_;rw[iQ];simp only[qbC,ii,ip,iv,true_iff,ji,iff_true,iff_false,not_and];omega
  refine yz 23<|q9 (yR1 (xF) ?_);refine⟨?_,Up.ch (zm w)⟩;refine zc ?_;rw[iQ];simp only[qbC,ii,ip,iv,true_iff,ji,iff_true,iff_false,not_and];omega
 refine yz 23<|q9 (yR1 (xF) ?_);refine⟨?_,Up.ch (zm w)⟩;refine zc ?_;rw[iQ];simp only[qbC,ii,ip,iv,true_iff,ji,iff_true,iff_false,not_and];omega
theorem some_any (g:Nat)(G:Gr)(p1 p2 n:Int){v:Value}(w:World)(h:Blk w g [iX G.w,iX G.h,v] qgo)(h1:1<=G.h)(h2:G.h<=60):CP 198 [pX g,iX p1,iX p2,iX n].toArray w (RQ (.tuple #[iX (min (max p1 0) G.h),iX (min (max p2 0) G.h),iX (min (max n 0) (max (min (max p2 0) G.h-min (max p1 0) G.h) 0))]) w):=by
 refine yA Tryz.func198 rfl<|yx 3<|ys<|yD [] fun f i a=>?_;have d:=zu (zm w) a iZ;have b:=h.ch a id;refine yd (uL 0 16) [] (.l (b.c 1) (.l (b.c 1) .z))<|yDe (nS ?_);refine ysr<|yp 12 [] (.q6 ((min ((max (p2:Int) 0):Int) G.h)-(min ((max (p1:Int) 0):Int) G.h)) .z)<|ye<|q9 (yR2 [iX (min ((max (p1:Int) 0):Int) G.h),iX (min ((max (p2:Int) 0):Int) G.h),iX (min ((max (n:Int) 0):Int) (max (((min ((max (p2:Int) 0):Int) G.h)-(min ((max (p1:Int) 0):Int) G.h)):Int) 0))] .z ?_);exact⟨rfl,Up.ch d⟩
theorem put_any (g:Nat)(G:Gr)(F:Nat->Prop)(x y:Int)(c:Cel)(w:World)(hT:qai w)(hG0:GridAt w g G F):CP 163 [pX g,iX x,iX y,.agg #[rX c.rune,.bool c.sty.bold,.bool c.sty.under,.bool c.sty.turned,iX c.sty.fore,iX c.sty.back]].toArray w fun e w'=>e= .returned (.tuple #[])/\GridAt w' g (qjl G x y c) (more F w w')/\Ch F w w':=by
 obtain⟨r,rc,I,hG⟩:=hG0;have hG0:GridAt w g G F:=⟨r,rc,I,hG⟩
 obtain⟨⟨bK,bL⟩,⟨bM,bN⟩,bO,bP⟩:=hG.ok;have bQ:=hG.len;have bR:Df r g:=hG.gr;have bS:=hG.hi _ hG.inF.1;have bT:=hG.hi _ hG.inF.2.1;obtain⟨q,hq⟩:=qig hG y;refine yA Tryz.func163 rfl<|ysr<|yo (yN [rX c.rune,.bool c.sty.bold,.bool c.sty.under,.bool c.sty.turned,iX c.sty.fore,iX c.sty.back] 159 fun bU d aG bV aH J=>?_);have bW:w.heap.size<=d:=by rw[aG];exact zzs (Ch.refl (fun j=>j=q.b\/j=r) w)
 have aI:=zt (Ch.refl (fun j=>j=q.b\/j=r) w) J eZ;have aJ:=zu (zm w) J iZ;have a8:=hG.head.ch J id;have aK:=hG.body.ch J (fun b e=>by cases e;exact id);have aL:=qi J hT id id;refine ye<|ys<|ysr<|yq 3<|yo (yQ (qeD g G x y _ a8) fun bX A=>?_);have aM:=zt aI A eZ;have M:=zu aJ A iZ;have aN:=a8.ch A id;have aO:=aK.ch A (fun b e=>by cases e;exact id);have aP:=qi A aL id id;have a9:=aH.ch A id;refine yq 6<|yw [14] (rN (rY (qbC G x y))) (fun R=>?_) fun R=>?_
 ·have aa:=R;refine yz 10<|yct<|q9 (rS (yR0 ?_));rw[show qjl G x y c=G from if_neg (fun h=>by first|exact absurd (h.1.symm.trans aa) (by decide)|exact absurd (h.2.symm.trans B) (by decide))];exact⟨rfl,hG0.same (Up.ch M),(Up.ch M).mono eZ⟩
 have S:=there_iff.1 R;have p:=hq ⟨by omega,by omega⟩;obtain⟨T,f,t,s⟩:=qex hG p;have ab:Df q.b g:=(hG.gb q t).1;have ac:Df q.b r:=(hG.gb q t).2;have bY:=hG.hi _ (hG.inF.2.2 q t);have ad:=(hG.line q t).1;have aQ:=ad.ch (Up.ch M) id;have ae:Df q.b d:=(show¬q.b=d by have:=ad.lt;omega)
 have bZ:Df g d:=(show¬g=d by have:=hG.head.lt;omega)
 have c0:Df r d:=(show¬r=d by have:=hG.body.lt;omega)
 refine yp 7 [] (.a (a9.cs 0 6) .z)<|yo (yQ (qlG c _) fun c1 v=>?_);have aR:=zt aM v eZ;have af:=zu M v iZ;have ag:=aN.ch v id;have ah:=aO.ch v (fun b e=>by cases e;exact id);have aS:=qi v aP id id;have ai:=a9.ch v id;have aj:=aQ.ch v id;refine yz 10<|yc (rN (rY (qkE c))) (fun B=>?_) fun B=>?_
 ·refine q9 (rS (yR0 ?_));rw[show qjl G x y c=G from if_neg (fun h=>by first|exact absurd (h.1.symm.trans aa) (by decide)|exact absurd (h.2.symm.trans B) (by decide))];exact⟨rfl,hG0.same (Up.ch af),(Up.ch af).mono eZ⟩
 refine yk<|ysr<|yp 8 [] (.l (ag.c 2) (.i y (I.length) (.l (qct ah p) .z)))<|ye<|ysr<|yp 4 [] (.a (ai.cs 0 6) (.i x (q.n) .z)) ?_;obtain⟨aT,aU,U⟩:=aj.blk;refine yo (qaL (0+(x:Int).toNat*6) [rX c.rune,.bool c.sty.bold,.bool c.sty.under,.bool c.sty.turned,iX c.sty.fore,iX c.sty.back] none (by kernel_rfl) U (qdP q.l aT x (by omega) (by first|omega|(simp only[f,s,qbg,qaB];omega)) (qc2 rfl)) ?_);intro c2 U K;have aV:=s_cel aj aU (by omega) (by first|omega|(simp only[f,s,qbg,qaB];omega)) c U;have aW:=zt aR K (fun i hi (h:i=q.b)=> .inl h);have aX:=ag.ch K (fun h=>ab h.symm);have aY:=ah.ch K (fun b e=>by cases e;exact(fun h=>ac h.symm));have ak:=qi K aS (fun(h:qe3=q.b)=>by have:=qc4 hT;have:=g_lt;omega) (fun(h:qc3=q.b)=>by have:=qc4 hT;have:=g_lt;omega);have al:=ai.ch K (fun h=>ae h.symm);refine ye<|ys<|ysr<|yp 2 [] (.l (al.c 0) .z)<|yo (yQ (qbK c.rune _ ak.1) fun c3 hq=>?_);have C:=qc8 hq;clear hq;have V:=zt aW C eZ;have N:=aX.ch C id;have W:=aY.ch C (fun b e=>by cases e;exact id);have X:=qi C ak id id;have O:=al.ch C id;have P:=aV.ch C id;refine yq 4<|yw [33] (rY (qb1 c.rune)) (fun Q=>?_) fun Q=>?_
 ·refine yp 12 [] (.q6 (x+1) (.l (N.c 0) .z))<|ye<|yc (rL (x+1) G.w) (fun aZ=>?_) fun aZ=>?_
  ·refine q7<|yp 7 [] (.q6 (x+1) (.a (O.cs 1 5) (.i (x+1) (q.n) .z))) ?_;obtain⟨b0,b1,Y⟩:=P.blk;refine yo (qaL (0+((x+1):Int).toNat*6) [rX 0,.bool c.sty.bold,.bool c.sty.under,.bool c.sty.turned,iX c.sty.fore,iX c.sty.back] none (by kernel_rfl) Y (qdP (q.l.set (x:Int).toNat c) b0 (x+1) (by omega) (by first|omega|(simp only[f,s,qbg,qaB];omega)) (qc2 rfl)) ?_);intro c4 Y L;have b2:=s_cel P b1 (by omega) (by first|omega|(simp only[f,s,qbg,qaB];omega)) (Cel.mk 0 c.sty) Y;have b3:=zt V L (fun i hi (h:i=q.b)=> .inl h);have b4:=N.ch L (fun h=>ab h.symm);have b5:=W.ch L (fun b e=>by cases e;exact(fun h=>ac h.symm));have b6:=qi L X (fun(h:qe3=q.b)=>by have:=qc4 hT;have:=g_lt;omega) (fun(h:qc3=q.b)=>by have:=qc4 hT;have:=g_lt;omega);have b7:=O.ch L (fun h=>ae h.symm);refine ye<|yDC [8] fun c5 c6 D=>?_;have am:=zt b3 D eZ;have an:=b4.ch D id;have ao:=b5.ch D (fun b e=>by cases e;exact id);have b8:=qi D b6 id id;have b9:=b7.ch D id;have Z:=b2.ch D id;refine ydC (uL 0 6) [] (fun u hu=>(.l (qg hu (an.c 2) id) .z))<|yH 6 (yC (qeB q.b q.n q.cap ((q.l.set (x:Int).toNat c).set ((x+1):Int).toNat (Cel.mk 0 c.sty)) _ b8 Z.rd Z.lt (by first|omega|simp only[qbg,qaB,f,s]) (by omega)) ?_);rintro _ c7 ⟨k,a0,rfl,ba,bb,a1⟩;refine⟨_,rfl,?_⟩;have bc:w.heap.size<=k:=iq (zzs am) bb
   have c8:Df g k:=(show¬g=k by have:=an.lt;omega)
   have bd:Df r k:=(show¬r=k by have:=ao.lt;omega)
   have c9:Df d k:=(show¬d=k by have:=b9.lt;omega)
   have ca:Df q.b k:=(show¬q.b=k by have:=Z.lt;omega)
   have bf:=zt am a1 eZ;have ap:=ao.ch a1 (fun b e=>by cases e;exact id);refine qaN a1<|ydC [7] [] (fun u hu=>(.i y (I.length) .z)) ?_;obtain⟨cb,bg,bh⟩:=ap.2.2.2.2 _ rfl;refine yK 8 (qaL (0+(y:Int).toNat*1) [Row.val (Row.mk k q.n a0 (qew ((q.l.set (x:Int).toNat c).set ((x+1):Int).toNat (Cel.mk 0 c.sty))))] none (by kernel_rfl) bh (qii (io.1 p).1) ?_);intro cc bi aq;have bj:=qih (x:=(Row.mk k q.n a0 (qew ((q.l.set (x:Int).toNat c).set ((x+1):Int).toNat (Cel.mk 0 c.sty))))) (io.1 p).1 bg ap bi;have ar:=zt bf aq (fun i hi (h:i=r)=> .inr h);have bk:=ba.ch aq (fun h=>bd h.symm);refine q8<|yDe (qW ?_);have e:qjl G x y c=⟨G.w,G.h,G.lines.set y.toNat (qew ((q.l.set (x:Int).toNat c).set ((x+1):Int).toNat (Cel.mk 0 c.sty)))⟩:=by
    unfold qjl qfg putL;rw[if_pos ⟨there_iff.2 S,B⟩,if_pos ⟨Q,by omega⟩,<-T]
   rw[e];exact⟨rfl,⟨r,rc,_,GridIn.setLine (x':=(Row.mk k q.n a0 (qew ((q.l.set (x:Int).toNat c).set ((x+1):Int).toNat (Cel.mk 0 c.sty))))) hG p ar bj bk (.inr bc) (by simp only[qaH,qbg,f]) (by simp only[qaH,qbg,f,s])⟩,(ar).mono (fun i _ hi=>hi.elim (fun e=>e▸hG.inF.2.2 q t) (fun e=>e▸hG.inF.2.1))⟩
  refine yk<|yDC [8] fun cd ce E=>?_;have au:=zt V E eZ;have av:=N.ch E id;have aw:=W.ch E (fun b e=>by cases e;exact id);have bl:=qi E X id id;have bm:=O.ch E id;have a2:=P.ch E id;refine ydC (uL 0 6) [] (fun u hu=>(.l (qg hu (av.c 2) id) .z))<|yH 6 (yC (qeB q.b q.n q.cap (q.l.set (x:Int).toNat c) _ bl a2.rd a2.lt (by first|omega|simp only[qbg,qaB,f,s]) (by omega)) ?_);rintro _ cf ⟨m,a3,rfl,bn,bo,a4⟩;refine⟨_,rfl,?_⟩;have bp:w.heap.size<=m:=iq (zzs au) bo;have cg:Df g m:=(show¬g=m by have:=av.lt;omega)
  have bq:Df r m:=(show¬r=m by have:=aw.lt;omega)
  have ci:Df d m:=(show¬d=m by have:=bm.lt;omega)
  have cj:Df q.b m:=(show¬q.b=m by have:=a2.lt;omega)
  have br:=zt au a4 eZ;have ax:=aw.ch a4 (fun b e=>by cases e;exact id);refine qaN a4<|ydC [7] [] (fun u hu=>(.i y (I.length) .z)) ?_;obtain⟨ck,bs,bt⟩:=ax.2.2.2.2 _ rfl;refine yK 8 (qaL (0+(y:Int).toNat*1) [Row.val (Row.mk m q.n a3 (qew (q.l.set (x:Int).toNat c)))] none (by kernel_rfl) bt (qii (io.1 p).1) ?_);intro cl bu ay;have bv:=qih (x:=(Row.mk m q.n a3 (qew (q.l.set (x:Int).toNat c)))) (io.1 p).1 bs ax bu;have az:=zt br ay (fun i hi (h:i=r)=> .inr h);have bw:=bn.ch ay (fun h=>bq h.symm);refine q8<|yDe (qW ?_);have e:qjl G x y c=⟨G.w,G.h,G.lines.set y.toNat (qew (q.l.set (x:Int).toNat c))⟩:=by
   unfold qjl qfg putL;rw[if_pos ⟨there_iff.2 S,B⟩,if_neg (fun h=>by first|exact absurd (h.1.symm.trans Q) (by decide)|exact absurd h.2 (by omega)),<-T]
  rw[e];exact⟨rfl,⟨r,rc,_,GridIn.setLine (x':=(Row.mk m q.n a3 (qew (q.l.set (x:Int).toNat c)))) hG p az bv bw (.inr bp) (by simp only[qaH,qbg,f]) (by simp only[qaH,qbg,f,s])⟩,(az).mono (fun i _ hi=>hi.elim (fun e=>e▸hG.inF.2.2 q t) (fun e=>e▸hG.inF.2.1))⟩
 refine yz 12<|ycf<|yk<|yDC [8] fun cm cn H=>?_;have aA:=zt V H eZ;have aB:=N.ch H id;have aC:=W.ch H (fun b e=>by cases e;exact id);have bx:=qi H X id id;have bz:=O.ch H id;have a5:=P.ch H id;refine ydC (uL 0 6) [] (fun u hu=>(.l (qg hu (aB.c 2) id) .z))<|yH 6 (yC (qeB q.b q.n q.cap (q.l.set (x:Int).toNat c) _ bx a5.rd a5.lt (by first|omega|simp only[qbg,qaB,f,s]) (by omega)) ?_);rintro _ co ⟨o,a6,rfl,bA,bB,a7⟩;refine⟨_,rfl,?_⟩;have bC:w.heap.size<=o:=iq (zzs aA) bB;have cp:Df g o:=(show¬g=o by have:=aB.lt;omega)
 have bD:Df r o:=(show¬r=o by have:=aC.lt;omega)
 have cq:Df d o:=(show¬d=o by have:=bz.lt;omega)
 have cr:Df q.b o:=(show¬q.b=o by have:=a5.lt;omega)
 have bE:=zt aA a7 eZ;have aD:=aC.ch a7 (fun b e=>by cases e;exact id);refine qaN a7<|ydC [7] [] (fun u hu=>(.i y (I.length) .z)) ?_;obtain⟨ct,bF,bG⟩:=aD.2.2.2.2 _ rfl;refine yK 8 (qaL (0+(y:Int).toNat*1) [Row.val (Row.mk o q.n a6 (qew (q.l.set (x:Int).toNat c)))] none (by kernel_rfl) bG (qii (io.1 p).1) ?_);intro cu bH aE;have bI:=qih (x:=(Row.mk o q.n a6 (qew (q.l.set (x:Int).toNat c)))) (io.1 p).1 bF aD bH;have aF:=zt bE aE (fun i hi (h:i=r)=> .inr h);have bJ:=bA.ch aE (fun h=>bD h.symm);refine q8<|yDe (qW ?_);have e:qjl G x y c=⟨G.w,G.h,G.lines.set y.toNat (qew (q.l.set (x:Int).toNat c))⟩:=by
  unfold qjl qfg putL;rw[if_pos ⟨there_iff.2 S,B⟩,if_neg (fun h=>by first|exact absurd (h.1.symm.trans Q) (by decide)|exact absurd h.2 (by omega)),<-T]
 rw[e];exact⟨rfl,⟨r,rc,_,GridIn.setLine (x':=(Row.mk o q.n a6 (qew (q.l.set (x:Int).toNat c)))) hG p aF bI bJ (.inr bC) (by simp only[qaH,qbg,f]) (by simp only[qaH,qbg,f,s])⟩,(aF).mono (fun i _ hi=>hi.elim (fun e=>e▸hG.inF.2.2 q t) (fun e=>e▸hG.inF.2.1))⟩
theorem qbh (g:Nat)(G:Gr)(F:Nat->Prop)(y p1 p2:Int)(s:Sty)(w:World)(hT:qai w)(hG0:GridAt w g G F):CP 186 [pX g,iX y,iX p1,iX p2,.agg #[.bool s.bold,.bool s.under,.bool s.turned,iX s.fore,iX s.back]].toArray w fun e w'=>e= .returned (.tuple #[])/\GridAt w' g (qb3 G y p1 p2 s) (more F w w')/\Ch F w w':=by
 obtain⟨r,rc,D,hG⟩:=hG0;have hG0:GridAt w g G F:=⟨r,rc,D,hG⟩
 obtain⟨⟨aP,aQ⟩,⟨aR,aS⟩,aT,aU⟩:=hG.ok;have aV:=hG.len;have aW:Df r g:=hG.gr;have aX:=hG.hi _ hG.inF.1;have aY:=hG.hi _ hG.inF.2.1;obtain⟨q,hq⟩:=qig hG y;refine yA Tryz.func186 rfl<|ysr<|yo (yN [.bool s.bold,.bool s.under,.bool s.turned,iX s.fore,iX s.back] 84 fun aZ f a1 b0 a2 v=>?_);have b1:w.heap.size<=f:=by rw[a1];exact zzs (Ch.refl (fun j=>j=q.b\/j=r) w)
 have a3:=zt (Ch.refl (fun j=>j=q.b\/j=r) w) v eZ;have a4:=zu (zm w) v iZ;have R:=hG.head.ch v id;have a5:=hG.body.ch v (fun b e=>by cases e;exact id);have a6:=qi v hT id id;refine ye<|ys<|ysr<|yq 2<|yo (yQ (qeD g G 0 y _ R) fun a7 m=>?_);have a8:=zt a3 m eZ;have H:=zu a4 m iZ;have a9:=R.ch m id;have aa:=a5.ch m (fun b e=>by cases e;exact id);have ab:=qi m a6 id id;have ac:=a2.ch m id;refine yz 4<|yc (rN (rY (qbC G 0 y))) (fun I=>?_) fun I=>?_
 ·have ad:=I;refine q9 (rS (yR0 ?_));rw[show qb3 G y p1 p2 s=G from if_neg (fun h=>absurd (h.symm.trans ad) (by decide))];exact⟨rfl,hG0.same (Up.ch H),(Up.ch H).mono eZ⟩
 have ae:=there_iff.1 I;have o:=hq ⟨by omega,by omega⟩;obtain⟨af,A,B,E⟩:=qex hG o;have ag:Df q.b g:=(hG.gb q B).1;have ah:Df q.b r:=(hG.gb q B).2;have b2:=hG.hi _ (hG.inF.2.2 q B);have S:=(hG.line q B).1;have ai:=S.ch (Up.ch H) id;have aj:Df q.b f:=(show¬q.b=f by have:=S.lt;omega)
 have b3:Df g f:=(show¬g=f by have:=hG.head.lt;omega)
 have b4:Df r f:=(show¬r=f by have:=hG.body.lt;omega)
 refine yk<|ys<|yx 3<|qa<|qV [0,1,3,9,10] (f':=[(0,pX g),(1,iX y),(3,iX p2),(9,pX f),(10,iX (max (p1:Int) 0))])<|qw (σ:=Nat) (fun k=>[(0,pX g),(1,iX y),(3,iX p2),(9,pX f),(10,iX ((max (p1:Int) 0)+(k:Int)))]) (fun k w=>k<=(min (p2:Int) G.w-(max (p1:Int) 0)).toNat/\LineAt w q.b (qfQ q.l (max (p1:Int) 0) (qB s) k) q.cap/\Ch (fun j=>j=q.b) a7 w) (fun k=>(min (p2:Int) G.w-(max (p1:Int) 0)).toNat-k) 0 (by simp) ?_ ?_
 ·exact⟨ir _,ai,Ch.refl _ _⟩
 intro k b5 ak b6 al;obtain⟨b7,T,p⟩:=ak;have am:=zt a8 p (fun i hi (h:i=q.b)=> .inl h);have J:=a9.ch p (fun h=>ag h.symm);have U:=aa.ch p (fun b e=>by cases e;exact(fun h=>ah h.symm));have an:=qi p ab (fun(h:qe3=q.b)=>by have:=qc4 hT;have:=g_lt;omega) (fun(h:qc3=q.b)=>by have:=qc4 hT;have:=g_lt;omega);have V:=ac.ch p (fun h=>aj h.symm);refine ys<|ysr<|yp 8 [] (.l (J.c 0) .z)<|ye<|yc (rL ((max (p1:Int) 0)+(k:Int)) (min (p2:Int) G.w)) (fun ao=>?_) fun ao=>?_
 ·refine yk<|ys<|qa<|yDC [11] fun b8 b9 C=>?_;have ap:=zt p C eZ;have aq:=J.ch C id;have ar:=U.ch C (fun b e=>by cases e;exact id);have au:=V.ch C id;have av:=T.ch C id;refine ydC (uL 0 9) [] (fun u hu=>(.l (qg hu (aq.c 2) id) (.i y (D.length) (.l (qg hu (qct ar o) id) (.a (qap hu (au.cs 0 5) id) .z)))))<|yH 9 (yQ (qjj s _) fun ba K=>?_);have aw:=zt ap K eZ;have W:=av.ch K id;refine qaN K<|ydC [10] [] (fun u hu=>(.i ((max (p1:Int) 0)+(k:Int)) (q.n) .z)) ?_;obtain⟨ax,ay,L⟩:=W.blk;refine yK 11 (qaL (0+(((max (p1:Int) 0)+(k:Int)):Int).toNat*6) [rX (qB s).rune,.bool (qB s).sty.bold,.bool (qB s).sty.under,.bool (qB s).sty.turned,iX (qB s).sty.fore,iX (qB s).sty.back] none (by kernel_rfl) L (qdP (qfQ q.l (max (p1:Int) 0) (qB s) k) ax ((max (p1:Int) 0)+(k:Int)) (by omega) (by first|omega|(simp only[A,E,qbg,qaB];omega)) (qc2 rfl)) ?_);intro bb L az;have aA:=s_cel W ay (by omega) (by first|omega|(simp only[A,E,qbg,qaB];omega)) (qB s) L;have aB:=zt aw az iZ;refine q8<|yDe (nB (nS ?_));refine q7<|yp 3 [] (.q6 (((max (p1:Int) 0)+(k:Int))+1) .z)<|yE (fun a ha=>al (k+1) _ ⟨by omega,aA,aB⟩ (by show(min (p2:Int) G.w-(max (p1:Int) 0)).toNat-(k+1)<(min (p2:Int) G.w-(max (p1:Int) 0)).toNat-k;omega) a (by rw[show((max (p1:Int) 0)+((k+1:Nat):Int))=((max (p1:Int) 0)+(k:Int))+1 by omega];exact ha.kp [0,1,3,9,10]))
 have aC:k=(min (p2:Int) G.w-(max (p1:Int) 0)).toNat:=by omega
 refine qm (eS (qd (qb (nS ?_))));refine yDC [14] fun bc bd t=>?_;have X:=zt am t eZ;have M:=J.ch t id;have N:=U.ch t (fun b e=>by cases e;exact id);have aD:=qi t an id id;have aE:=V.ch t id;have O:=T.ch t id;refine ydC (uL 0 12) [] (fun u hu=>(.l (qg hu (M.c 2) id) (.l (qg hu (M.c 2) id) (.i y (D.length) (.l (qg hu (qct N o) id) .z)))))<|yH 12 (yC (qeB q.b q.n q.cap (qfQ q.l (max (p1:Int) 0) (qB s) k) _ aD O.rd O.lt (by first|omega|simp only[qbg,qaB,A,E]) (by omega)) ?_);rintro _ bf ⟨d,P,rfl,aF,aG,Q⟩;refine⟨_,rfl,?_⟩;have aH:w.heap.size<=d:=iq (zzs X) aG;have bg:Df g d:=(show¬g=d by have:=M.lt;omega)
 have aI:Df r d:=(show¬r=d by have:=N.lt;omega)
 have bh:Df f d:=(show¬f=d by have:=aE.lt;omega)
 have bi:Df q.b d:=(show¬q.b=d by have:=O.lt;omega)
 have aJ:=zt X Q eZ;have Y:=N.ch Q (fun b e=>by cases e;exact id);refine qaN Q<|ydC [13] [] (fun u hu=>(.i y (D.length) .z)) ?_;obtain⟨bj,aK,aL⟩:=Y.2.2.2.2 _ rfl;refine yK 14 (qaL (0+(y:Int).toNat*1) [Row.val (Row.mk d q.n P (qew (qfQ q.l (max (p1:Int) 0) (qB s) k)))] none (by kernel_rfl) aL (qii (io.1 o).1) ?_);intro bk aM Z;have aN:=qih (x:=(Row.mk d q.n P (qew (qfQ q.l (max (p1:Int) 0) (qB s) k)))) (io.1 o).1 aK Y aM;have a0:=zt aJ Z (fun i hi (h:i=r)=> .inr h);have aO:=aF.ch Z (fun h=>aI h.symm);refine q8<|yDe (qW ?_);have e:qb3 G y p1 p2 s=⟨G.w,G.h,G.lines.set y.toNat (qew (qfQ q.l (max (p1:Int) 0) (qB s) k))⟩:=by
  unfold qb3 qfg qgp;rw[if_pos (there_iff.2 ae),<-af,aC]
 rw[e];exact⟨rfl,⟨r,rc,_,GridIn.setLine (x':=(Row.mk d q.n P (qew (qfQ q.l (max (p1:Int) 0) (qB s) k)))) hG o a0 aN aO (.inr aH) (by simp only[qaH,qaB,A]) (by simp only[qaH,qaB,A,E])⟩,(a0).mono (fun i _ hi=>hi.elim (fun e=>e▸hG.inF.2.2 q B) (fun e=>e▸hG.inF.2.1))⟩
theorem qim (g:Nat)(G:Gr)(F:Nat->Prop)(x y n:Int)(s:Sty)(w:World)(hT:qai w)(hG0:GridAt w g G F):CP 162 [pX g,iX x,iX y,iX n,.agg #[.bool s.bold,.bool s.under,.bool s.turned,iX s.fore,iX s.back]].toArray w fun e w'=>e= .returned (.tuple #[])/\GridAt w' g (qhk G x y n s) (more F w w')/\Ch F w w':=by
 obtain⟨r,rc,A,hG⟩:=hG0;have hG0:GridAt w g G F:=⟨r,rc,A,hG⟩
 obtain⟨⟨ah,ai⟩,⟨aj,ak⟩,al,am⟩:=hG.ok;have an:=hG.len;have ao:Df r g:=hG.gr;have ap:=hG.hi _ hG.inF.1;have aq:=hG.hi _ hG.inF.2.1;obtain⟨q,hq⟩:=qig hG y;refine yA Tryz.func162 rfl<|ysr<|yo (yN [.bool s.bold,.bool s.under,.bool s.turned,iX s.fore,iX s.back] 84 fun ar d O au P m=>?_);have av:w.heap.size<=d:=by rw[O];exact zzs (Ch.refl (fun j=>j=q.b\/j=r) w)
 have Q:=zt (Ch.refl (fun j=>j=q.b\/j=r) w) m eZ;have R:=zu (zm w) m iZ;have J:=hG.head.ch m id;have S:=hG.body.ch m (fun b e=>by cases e;exact id);have T:=qi m hT id id;refine ye<|ys<|ysr<|yq 3<|yo (yQ (qeD g G x y _ J) fun aw f=>?_);have U:=zt Q f eZ;have B:=zu R f iZ;have K:=J.ch f id;have V:=S.ch f (fun b e=>by cases e;exact id);have W:=qi f T id id;have X:=P.ch f id;refine yz 5<|yc (rN (rY (qbC G x y))) (fun C=>?_) fun C=>?_
 ·have Y:=C;refine q9 (rS (yR0 ?_));rw[show qhk G x y n s=G from if_neg (fun h=>absurd (h.symm.trans Y) (by decide))];exact⟨rfl,hG0.same (Up.ch B),(Up.ch B).mono eZ⟩
 have Z:=there_iff.1 C;have o:=hq ⟨by omega,by omega⟩;obtain⟨a0,ax,p,a1⟩:=qex hG o;have ay:Df q.b g:=(hG.gb q p).1;have a2:Df q.b r:=(hG.gb q p).2;have az:=hG.hi _ (hG.inF.2.2 q p);have L:=(hG.line q p).1;have a3:=L.ch (Up.ch B) id;have a4:Df q.b d:=(show¬q.b=d by have:=L.lt;omega)
 have aA:Df g d:=(show¬g=d by have:=hG.head.lt;omega)
 have aB:Df r d:=(show¬r=d by have:=hG.body.lt;omega)
 refine yk<|ysr<|yp 10 [] (.l (K.c 0) (.q6 (G.w-x) .z))<|ye<|ys<|yD [20] fun aC aD k=>?_;have a5:=zt U k eZ;have M:=K.ch k id;have D:=V.ch k (fun b e=>by cases e;exact id);have a6:=qi k W id id;have a7:=X.ch k id;have t:=a3.ch k id;refine yd (uL 0 20) [] (.l (M.c 2) (.i y (A.length) (.l (qct D o) (.q6 (x+(min ((max (n:Int) 0):Int) (G.w-x))) (.j (x+(min ((max (n:Int) 0):Int) (G.w-x))) (q.n) (.l (M.c 2) (.i y (A.length) (.l (qct D o) (.j x (q.n) .z))))))))) ?_;obtain⟨aE,a8,a9⟩:=t.blk;have E:(((q.l.drop (x:Int).toNat).take (q.l.length-(x+(min (max (n:Int) 0) (G.w-x))).toNat))).length=q.l.length-(x+(min (max (n:Int) 0) (G.w-x))).toNat:=by rw[im,iG];omega
 refine yK 20 (qdm 6 q.b (if q.cap=((x+(min (max (n:Int) 0) (G.w-x))):Int).toNat then 0 else 0+((x+(min (max (n:Int) 0) (G.w-x))):Int).toNat*6) ((q.n-((x+(min ((max (n:Int) 0):Int) (G.w-x))):Int).toNat)) ((q.cap-((x+(min ((max (n:Int) 0):Int) (G.w-x))):Int).toNat)) (some ⟨q.b,if q.cap=(x:Int).toNat then 0 else 0+(x:Int).toNat*6,none⟩) ((q.n-(x:Int).toNat)) ((q.cap-(x:Int).toNat)) (qan ((q.l.drop (x:Int).toNat).take (q.l.length-(x+(min (max (n:Int) 0) (G.w-x))).toNat))) (some 44) (q.l.length-(x+(min (max (n:Int) 0) (G.w-x))).toNat) (by omega) (by kernel_rfl) a9 (qjn t (by omega)) (by rw[qaO,E]) (qaY _) (qjo t (by rw[E];omega)) ?_);intro H aa u;have ab:=qjm t a8 (by rw[E];omega) aa;have v:=zt a5 u (fun i hi (h:i=q.b)=> .inl h);have ac:=D.ch u (fun b e=>by cases e;exact(fun h=>a2 h.symm));have ad:=qi u a6 (fun(h:qe3=q.b)=>by have:=qc4 hT;have:=g_lt;omega) (fun(h:qc3=q.b)=>by have:=qc4 hT;have:=g_lt;omega);have ae:=a7.ch u (fun h=>a4 h.symm);refine q8<|yDe (nS ?_);refine q7<|yp 7 [] (.q6 (x+(min ((max (n:Int) 0):Int) (G.w-x))) (.a (ae.cs 0 5) .z)) ?_;have N:((qhi q.l x (min (max (n:Int) 0) (G.w-x)))).length=G.w.toNat:=by simp only[qhi,qhj,hJ,im,iG];omega
 have af:GridAt H g (qfg G y (qhi q.l x (min (max (n:Int) 0) (G.w-x)))) (more F w H):=⟨r,rc,_,GridIn.setLine (x':=⟨q.b,q.n,q.cap,(qhi q.l x (min (max (n:Int) 0) (G.w-x)))⟩) hG o v (qlI ac o rfl) ab (.inl rfl) N (N.trans a1.symm)⟩
 refine yo (yQ (qbh g (qfg G y (qhi q.l x (min (max (n:Int) 0) (G.w-x)))) (more F w H) y x (x+(min ((max (n:Int) 0):Int) (G.w-x))) s _ ad af) ?_);rintro aF ⟨ag,I⟩;refine yE (qW ?_);rw[show qhk G x y n s=_ from if_pos (there_iff.2 Z),<-a0];exact⟨rfl,ag.mono (qcc (zzs v) (zzs I)) (qbZ hG0 (iq (zzs v) (zzs I))),zt ((v).mono (fun i _ hi=>hi.elim (fun e=>e▸hG.inF.2.2 q p) (fun e=>e▸hG.inF.2.1))) I (fun i hi h=>h.elim id (fun h=>by omega))⟩
theorem qlJ (g:Nat)(G:Gr)(F:Nat->Prop)(x y n:Int)(s:Sty)(w:World)(hT:qai w)(hG0:GridAt w g G F):CP 200 [pX g,iX x,iX y,iX n,.agg #[.bool s.bold,.bool s.under,.bool s.turned,iX s.fore,iX s.back]].toArray w fun e w'=>e= .returned (.tuple #[])/\GridAt w' g (qil G x y n s) (more F w w')/\Ch F w w':=by
 obtain⟨r,rc,B,hG⟩:=hG0;have hG0:GridAt w g G F:=⟨r,rc,B,hG⟩
 obtain⟨⟨aq,ar⟩,⟨au,av⟩,aw,ax⟩:=hG.ok;have ay:=hG.len;have az:Df r g:=hG.gr;have aA:=hG.hi _ hG.inF.1;have aB:=hG.hi _ hG.inF.2.1;obtain⟨q,hq⟩:=qig hG y;refine yA Tryz.func200 rfl<|ysr<|yo (yN [.bool s.bold,.bool s.under,.bool s.turned,iX s.fore,iX s.back] 84 fun aC d Q aD R o=>?_);have aE:w.heap.size<=d:=by rw[Q];exact zzs (Ch.refl (fun j=>j=q.b\/j=r) w)
 have S:=zt (Ch.refl (fun j=>j=q.b\/j=r) w) o eZ;have T:=zu (zm w) o iZ;have L:=hG.head.ch o id;have U:=hG.body.ch o (fun b e=>by cases e;exact id);have V:=qi o hT id id;refine ye<|ys<|ysr<|yq 3<|yo (yQ (qeD g G x y _ L) fun aF f=>?_);have W:=zt S f eZ;have C:=zu T f iZ;have M:=L.ch f id;have X:=U.ch f (fun b e=>by cases e;exact id);have Y:=qi f V id id;have Z:=R.ch f id;refine yz 5<|yc (rN (rY (qbC G x y))) (fun D=>?_) fun D=>?_
 ·have a0:=D;refine q9 (rS (yR0 ?_));rw[show qil G x y n s=G from if_neg (fun h=>absurd (h.symm.trans a0) (by decide))];exact⟨rfl,hG0.same (Up.ch C),(Up.ch C).mono eZ⟩
 have a1:=there_iff.1 D;have p:=hq ⟨by omega,by omega⟩;obtain⟨a2,aG,t,a3⟩:=qex hG p;have a4:Df q.b g:=(hG.gb q t).1;have a5:Df q.b r:=(hG.gb q t).2;have aH:=hG.hi _ (hG.inF.2.2 q t);have N:=(hG.line q t).1;have a6:=N.ch (Up.ch C) id;have a7:Df q.b d:=(show¬q.b=d by have:=N.lt;omega)
 have aI:Df g d:=(show¬g=d by have:=hG.head.lt;omega)
 have aJ:Df r d:=(show¬r=d by have:=hG.body.lt;omega)
 refine yk<|ysr<|yp 10 [] (.l (M.c 0) (.q6 (G.w-x) .z))<|ye<|ys<|yD [20] fun aK aL k=>?_;have a8:=zt W k eZ;have E:=M.ch k id;have H:=X.ch k (fun b e=>by cases e;exact id);have a9:=qi k Y id id;have aa:=Z.ch k id;have v:=a6.ch k id;refine yd (uL 0 20) [] (.l (E.c 2) (.i y (B.length) (.l (qct H p) (.j x (q.n) (.l (E.c 2) (.i y (B.length) (.l (qct H p) (.q6 (x+(min ((max (n:Int) 0):Int) (G.w-x))) (.j (x+(min ((max (n:Int) 0):Int) (G.w-x))) (q.n) .z))))))))) ?_;obtain⟨aM,ab,ac⟩:=v.blk;have I:(((q.l.drop ((x+(min (max (n:Int) 0) (G.w-x))):Int).toNat).take (q.l.length-(x+(min (max (n:Int) 0) (G.w-x))).toNat))).length=q.l.length-(x+(min (max (n:Int) 0) (G.w-x))).toNat:=by rw[im,iG];omega
 refine yK 20 (qdm 6 q.b (if q.cap=(x:Int).toNat then 0 else 0+(x:Int).toNat*6) ((q.n-(x:Int).toNat)) ((q.cap-(x:Int).toNat)) (some ⟨q.b,if q.cap=((x+(min (max (n:Int) 0) (G.w-x))):Int).toNat then 0 else 0+((x+(min (max (n:Int) 0) (G.w-x))):Int).toNat*6,none⟩) ((q.n-((x+(min ((max (n:Int) 0):Int) (G.w-x))):Int).toNat)) ((q.cap-((x+(min ((max (n:Int) 0):Int) (G.w-x))):Int).toNat)) (qan ((q.l.drop ((x+(min (max (n:Int) 0) (G.w-x))):Int).toNat).take (q.l.length-(x+(min (max (n:Int) 0) (G.w-x))).toNat))) (some 44) (q.l.length-(x+(min (max (n:Int) 0) (G.w-x))).toNat) (by omega) (by kernel_rfl) ac (qjn v (by omega)) (by rw[qaO,I]) (qaY _) (qjo v (by rw[I];omega)) ?_);intro aN ad u;have ae:=qjm v ab (by rw[I];omega) ad;have af:=zt a8 u (fun i hi (h:i=q.b)=> .inl h);have ag:=E.ch u (fun h=>a4 h.symm);have ah:=H.ch u (fun b e=>by cases e;exact(fun h=>a5 h.symm));have ai:=qi u a9 (fun(h:qe3=q.b)=>by have:=qc4 hT;have:=g_lt;omega) (fun(h:qc3=q.b)=>by have:=qc4 hT;have:=g_lt;omega);have aj:=aa.ch u (fun h=>a7 h.symm);refine q8<|yDe (nS ?_);refine yD [13] fun J aO m=>?_;have A:=zt af m eZ;have O:=ag.ch m id;have ak:=ah.ch m (fun b e=>by cases e;exact id);have al:=qi m ai id id;have am:=aj.ch m id;have an:=ae.ch m id;refine yd (uL 0 13) [] (.l (O.c 0) (.q6 (G.w-(min ((max (n:Int) 0):Int) (G.w-x))) (.l (O.c 0) (.a (am.cs 0 5) .z)))) ?_
 have P:((qhj q.l x (min (max (n:Int) 0) (G.w-x)))).length=G.w.toNat:=by simp only[qhi,qhj,hJ,im,iG];omega
 have ao:GridAt J g (qfg G y (qhj q.l x (min (max (n:Int) 0) (G.w-x)))) (more F w J):=⟨r,rc,_,GridIn.setLine (x':=⟨q.b,q.n,q.cap,(qhj q.l x (min (max (n:Int) 0) (G.w-x)))⟩) hG p A (qlI ak p rfl) an (.inl rfl) P (P.trans a3.symm)⟩
 refine yK 13 (yQ (qbh g (qfg G y (qhj q.l x (min (max (n:Int) 0) (G.w-x)))) (more F w J) y (G.w-(min ((max (n:Int) 0):Int) (G.w-x))) G.w s _ al ao) ?_);rintro aP ⟨ap,K⟩;refine q8<|yDe (qW ?_);rw[show qil G x y n s=_ from if_pos (there_iff.2 a1),<-a2];exact⟨rfl,ap.mono (qcc (zzs A) (zzs K)) (qbZ hG0 (iq (zzs A) (zzs K))),zt ((A).mono (fun i _ hi=>hi.elim (fun e=>e▸hG.inF.2.2 q t) (fun e=>e▸hG.inF.2.1))) K (fun i hi h=>h.elim id (fun h=>by omega))⟩
def qfR {α:Type}(L:List α)(t e:Nat)(b:α):List α:=L.take t++[b]++(L.drop t).take (e-1-t)++L.drop e
def up1 {α:Type}(L:List α)(t e:Nat)(b:α):List α:=L.take t++(L.drop (t+1)).take (e-(t+1))++[b]++L.drop e
def qmY {α:Type}(t e:Nat)(b:α):Nat->List α->List α
 |0,L=>L
 |k+1,L=>qfR (qmY t e b k L) t e b
def upN {α:Type}(t e:Nat)(b:α):Nat->List α->List α
 |0,L=>L
 |k+1,L=>up1 (upN t e b k L) t e b
theorem qjp {α β:Type}(f:α->β)(L:List α)(t e:Nat)(b:α):(qfR L t e b).map f=qfR (L.map f) t e (f b):=by simp[qfR,k4,List.map_drop]
theorem qov {α β:Type}(f:α->β)(L:List α)(t e:Nat)(b:α):(up1 L t e b).map f=up1 (L.map f) t e (f b):=by simp[up1,k4,List.map_drop]
theorem qjq {α:Type}{L:List α}{t e:Nat}{b:α}(h:t<e)(h':e<=L.length):(qfR L t e b).length=L.length:=by simp[qfR];omega
theorem qow {α:Type}{L:List α}{t e:Nat}{b:α}(h:t<e)(h':e<=L.length):(up1 L t e b).length=L.length:=by simp[up1];omega
theorem qmZ {α:Type}(L:List α)(t e:Nat)(b:α):(qfR L t e b).Perm (b::(L.take t++(L.drop t).take (e-1-t)++L.drop e)):=by
 unfold qfR;simp only[ie,List.singleton_append];exact List.perm_middle
theorem qin {α:Type}(L:List α)(t e:Nat)(b:α):(up1 L t e b).Perm (b::(L.take t++(L.drop (t+1)).take (e-(t+1))++L.drop e)):=by
 unfold up1;rw[ie (_++_) [b]];exact List.perm_middle
theorem qg1 {α:Type}(L:List α)(t u m e:Nat)(h:t<=u)(h':u+m<=e):(L.take t++(L.drop u).take m++L.drop e).Sublist L:=by
 have a:L=L.take t++((L.drop t).take (u-t)++((L.drop u).take m++((L.drop (u+m)).take (e-(u+m))++L.drop e))):=by
  conv=>lhs;rw[<-iV t L]
  congr 1
  conv=>lhs;rw[<-iV (u-t) (L.drop t),k7,show t+(u-t)=u by omega]
  congr 1
  conv=>lhs;rw[<-iV m (L.drop u),k7]
  congr 1
  conv=>lhs;rw[<-iV (e-(u+m)) (L.drop (u+m)),k7,show u+m+(e-(u+m))=e by omega]
 conv=>rhs;rw[a]
 rw[ie];refine List.Sublist.append_left ?_ _;refine(List.Sublist.append_left (List.sublist_append_right _ _) _).trans (List.sublist_append_right _ _)
section
variable {w w':World}{e:TypeId}{b n cap:Nat}{vs ys rest:List Value}
theorem qlK {lo:Nat}(h:Own w e 1 (some b) n cap vs)(hr:rest.length=(cap-n)*1)(hlo:lo+ys.length<=n)
  (hb:Blk w' b (put (vs++rest) (if cap=lo then 0 else 0+lo*1) ys) e):Own w' e 1 (some b) n cap (vs.take lo++ys++vs.drop (lo+ys.length)):=by
 have hl:=h.1;have c:=h.2.1;refine⟨by simp only[hJ,im,iG];omega,c,h.2.2.1,(fun e=>by cases e),fun g e=>⟨rest,hr,?_⟩⟩;obtain rfl:=ia e;by_cases e:cap=lo
 ·have hy:ys=[]:=iy (by omega)
  subst hy;rw[if_pos e]at hb;have a:put (vs++rest) 0 []=vs++rest:=by simp[put]
  have d:vs.take lo++[]++vs.drop (lo+([]:List Value).length)=vs:=by simp
  rw[d];rwa[a]at hb
 ·rw[if_neg e,iJ,iN]at hb
  have a:put (vs++rest) lo ys=vs.take lo++ys++vs.drop (lo+ys.length)++rest:=by
   unfold put;rw[jP (by omega),jQ (by omega)];simp[ie]
  rwa[a]at hb
theorem qio {k m:Nat}(h:Own w e 1 (some b) n cap vs)(hkm:m<=n-k):Rd w (some ⟨b,if cap=k then 0 else 0+k*1,none⟩) ((vs.drop k).take m):=by
 have hl:=h.1;have c:=h.2.1;by_cases e:cap=k
 ·have:(vs.drop k).take m=[]:=iy (by rw[im,iG];omega)
  rw[this];exact Rd.nil _ _
 ·rw[if_neg e,iJ,iN]
  have a:=h.rd;refine⟨(fun e=>by cases e),fun ad e j u hj=>?_⟩;obtain rfl:=ia e;rw[qaZ];have:=qcg a (k+j) u (by
   rw[j5]at hj;split at hj
   ·rwa[jg]at hj
   ·cases hj)
  rwa[iJ]at this
theorem qox {lo:Nat}(h:Own w e 1 (some b) n cap vs)(hlo:lo+ys.length<=n):(if cap=lo then 0 else 0+lo*1)+ys.length<=(vs++rest).length:=by
 have hl:=h.1;rw[hJ];split<;>omega
theorem qkN {i:Nat}{v:Value}(h:Own w e 1 (some b) n cap vs)(hr:rest.length=(cap-n)*1)(hi:i<n)(hb:Blk w' b (put (vs++rest) (0+i*1) [v]) e):Own w' e 1 (some b) n cap (vs.set i v):=by
 have hl:=h.1;refine⟨by rw[iR];exact hl,h.2.1,h.2.2.1,(fun e=>by cases e),fun g e=>⟨rest,hr,?_⟩⟩;obtain rfl:=ia e;have a:put (vs++rest) (0+i*1) [v]=vs.set i v++rest:=by
  rw[iJ,iN];unfold put;rw[jP (by omega),jQ (by simp;omega),jI,if_pos (by omega)];simp
 rwa[a]at hb
theorem qhx {i:Nat}{v:Value}(h:Own w e 1 (some b) n cap vs)(hi:i<n):0+i*1+[v].length<=(vs++rest).length:=by
 have hl:=h.1;rw[hJ];simp;omega
end
theorem down1_of {α:Type}(L:List α)(t e:Nat)(b:α)(h:t<e)(h':e<=L.length):
  (L.take (t+1)++(L.drop t).take (e-1-t)++L.drop (t+1+((L.drop t).take (e-1-t)).length)).set t b=qfR L t e b:=by
 have hl:((L.drop t).take (e-1-t)).length=e-1-t:=by rw[im,iG];omega
 rw[hl,show t+1+(e-1-t)=e by omega];unfold qfR;rw[ie,List.set_append_left _ _ (by rw[im];omega),ie];congr 1;rw[jI,if_pos (by rw[im];omega),List.take_take,List.drop_take];simp[jK (Nat.le_succ t)]
theorem up1_of {α:Type}(L:List α)(t e:Nat)(b:α)(h:t<e)(h':e<=L.length):
  (L.take t++(L.drop (t+1)).take (e-1-t)++L.drop (t+((L.drop (t+1)).take (e-1-t)).length)).set (e-1) b=up1 L t e b:=by
 have hl:((L.drop (t+1)).take (e-1-t)).length=e-1-t:=by rw[im,iG];omega
 rw[hl,show t+(e-1-t)=e-1 by omega];unfold up1;rw[show e-(t+1)=e-1-t by omega];have a:(L.take t++(L.drop (t+1)).take (e-1-t)).length=e-1:=by rw[hJ,hl,im];omega
 rw[List.set_append_right _ _ (by omega),a,Nat.sub_self,ie _ [b]];congr 1;rw[jX (by omega),show e-1+1=e by omega];rfl
theorem GridIn.rows' {w w':World}{g r cap:Nat}{rows rows':List Row}{G:Gr}{F:Nat->Prop}{x:Row}{sub:List Row}(h:GridIn w g r cap rows G F)(hp:rows'.Perm (x::sub))(hsub:sub.Sublist rows)(hlen:rows'.length=rows.length)
  (hc:Ch (fun j=>j=r) w w') (hbody:Own w' qbY 1 (some r) rows.length cap (rows'.map Row.val)) (hl:LineAt w' x.b x.l x.cap) (hb:w.heap.size<=x.b) (hxl:x.l.length=G.w.toNat) (hn:x.l.length=x.n):
  GridIn w' g r cap rows' ⟨G.w,G.h,rows'.map Row.l⟩ (more F w w'):=by
 have a:∀z∈rows',z=x\/z∈rows:=fun z hz=>by
  rcases j9.1 (hp.mem_iff.1 hz)with h|h
  ·exact .inl h
  ·exact .inr (hsub.subset h)
 have hg:=h.lt _ h.inF.1;have hr:=h.lt _ h.inF.2.1;refine⟨?_,hlen▸hbody,?_,rfl,⟨h.ok.1,h.ok.2.1,?_,?_⟩,h.gr,?_,?_,⟨.inl h.inF.1,.inl h.inF.2.1,?_⟩,fun b hb=>(qbZ ⟨r,cap,rows,h⟩ hc.size b hb).1,fun b hb=>(qbZ ⟨r,cap,rows,h⟩ hc.size b hb).2⟩
 ·rw[hlen];exact h.head.ch hc fun e=>h.gr e.symm
 ·intro z hz
  rcases a z hz with rfl|hz
  ·exact⟨hl,hn⟩
  ·exact⟨(h.line z hz).1.ch hc (h.gb z hz).2,(h.line z hz).2⟩
 ·simp only[hZ];rw[hlen,h.len]
 ·intro l c
  obtain⟨z,hz,rfl⟩:=j7.1 c;rcases a z hz with rfl|hz
  ·exact hxl
  ·exact h.ok.2.2.2 _ (h.lines▸jh hz)
 ·intro z hz
  rcases a z hz with rfl|hz
  ·exact⟨by omega,by omega⟩
  ·exact h.gb z hz
 ·have d:=hp.map Row.b
  rw[d.nodup_iff,k5,List.nodup_cons];refine⟨fun hx=>?_,(hsub.map Row.b).nodup h.nodup⟩;obtain⟨z,hz,e⟩:=j7.1 hx;have:=h.lt _ (h.inF.2.2 z (hsub.subset hz));omega
 ·intro z hz
  rcases a z hz with rfl|hz
  ·exact .inr ⟨hb,hl.lt⟩
  ·exact .inl (h.inF.2.2 z hz)
def qg2 (G:Gr)(p:Int):Int:=min (max p 0) G.h
def cntI (G:Gr)(p1 p2 n:Int):Int:=min (max n 0) (max (qg2 G p2-qg2 G p1) 0)
def qeE (G:Gr)(p1 p2 n:Int)(s:Sty):Gr:=⟨G.w,G.h,qmY (qg2 G p1).toNat (qg2 G p2).toNat (List.replicate G.w.toNat (qB s)) (cntI G p1 p2 n).toNat G.lines⟩
def upG (G:Gr)(p1 p2 n:Int)(s:Sty):Gr:=⟨G.w,G.h,upN (qg2 G p1).toNat (qg2 G p2).toNat (List.replicate G.w.toNat (qB s)) (cntI G p1 p2 n).toNat G.lines⟩
theorem qlL (rows:List Row)(a m:Nat):((((rows.map Row.val).drop a).take m).all fun c=>c.oneCell')=true:=by
 refine j3.2 fun v hv=>?_;obtain⟨x,_,rfl⟩:=j7.1 (iW (iS hv));rfl
theorem qjr (g:Nat)(G:Gr)(p1 p2 n:Int){v:Value}(w:World)(h:Blk w g [iX G.w,iX G.h,v] qgo)(h1:1<=G.h)(h2:G.h<=60):CP 198 [pX g,iX p1,iX p2,iX n].toArray w fun e w'=>
    ∃t e2 m:Int,e= .returned (.tuple #[iX t,iX e2,iX m])/\t=min (max p1 0) G.h/\e2=min (max p2 0) G.h/\m=min (max n 0) (max (e2-t) 0)/\Ch (fun _=>False) w w':=
  (some_any g G p1 p2 n w h h1 h2).mono fun _ _ ⟨he,hc⟩=>⟨_,_,_,he,rfl,rfl,rfl,hc⟩
theorem qoy (G:Gr)(p1 p2 n:Int){t e m:Int}(h:1<=G.h/\G.h<=60)(ht:t=min (max p1 0) G.h)(he:e=min (max p2 0) G.h)(hm:m=min (max n 0) (max (e-t) 0)):(0<=t/\t<=G.h)/\(0<=e/\e<=G.h)/\(0<=m/\(0<m->m<=e-t)):=by omega
theorem qg3 (g:Nat)(G:Gr)(F:Nat->Prop)(p1 p2 n:Int)(s:Sty)(w:World)(hT:qai w)(hG0:GridAt w g G F):CP 187 [pX g,iX p1,iX p2,iX n,.agg #[.bool s.bold,.bool s.under,.bool s.turned,iX s.fore,iX s.back]].toArray w fun e w'=>e= .returned (.tuple #[])/\GridAt w' g (qeE G p1 p2 n s) (more F w w')/\Ch F w w':=by
 obtain⟨r,rc,N,hG⟩:=hG0;have hG0:GridAt w g G F:=⟨r,rc,N,hG⟩
 obtain⟨⟨a0,a1⟩,⟨a2,a3⟩,az,aA⟩:=hG.ok;have aB:=hG.len;have a4:Df r g:=hG.gr;have aC:=hG.hi _ hG.inF.1;have aD:=hG.hi _ hG.inF.2.1;refine yA Tryz.func187 rfl<|ysr<|yo (yN [.bool s.bold,.bool s.under,.bool s.turned,iX s.fore,iX s.back] 84 fun aE p a5 aF a6 D=>?_);have aG:w.heap.size<=p:=by rw[a5];exact zzs (Ch.refl (· =r) w)
 have a7:=zu (zm w) D iZ;have a8:=hG.head.ch D id;have aH:=hG.body.ch D (fun b e=>by cases e;exact id);refine ye<|ysr<|yq 4<|yo (yC (qjr g G p1 p2 n _ a8 a2 a3) ?_);rintro _ a9 ⟨t,d,m,rfl,ht,he,hm,O⟩;refine⟨_,rfl,?_⟩;have q:=zu a7 O iZ;have aa:=a6.ch O id;obtain⟨⟨t1,t2⟩,⟨t3,t4⟩,⟨t5,t6⟩⟩:=qoy G p1 p2 n (by omega) ht he hm;refine yz 12<|yx 2<|qa<|qV [0,1,2,9,19,20] (f':=[(0,pX g),(1,iX t),(2,iX d),(9,pX p),(19,iX m),(20,iX 0)])<|qw (σ:=Nat) (fun k=>[(0,pX g),(1,iX t),(2,iX d),(9,pX p),(19,iX m),(20,iX (k:Int))]) (fun k u=>k<=m.toNat/\ ∃f,GridIn u g r rc f (Gr.mk G.w G.h (qmY t.toNat d.toNat (List.replicate G.w.toNat (qB s)) k G.lines)) (more F w u)/\Ch (· =r) a9 u) (fun k=>m.toNat-k) 0 rfl ?_ ?_
 ·exact⟨ir _,N,(hG.ch (Up.ch q) iZ).mono (fun _ h=> .inl h) (qbZ hG0 (zzs q)),Ch.refl _ _⟩
 intro k E ab aO ac;obtain⟨hk,f,hK,v⟩:=ab;have ad:=aa.ch v (fun(h:p=r)=>by have:=hG.body.lt;omega);have P:w.heap.size<=E.heap.size:=iq (zzs q) (zzs v);have aP:f.length=G.h.toNat:=hK.len;have aQ:f.length<=rc:=hK.body.2.1;refine yx 1<|ys<|yc (rL (k:Int) m) (fun ae=>?_) fun ae=>?_
 ·refine yk<|ys<|qa<|ys<|yD [16] fun aR aS y=>?_;have af:=zt (Ch.refl (· =r) E) y eZ;have ag:=ad.ch y id;have H:=hK.head.ch y id;have A:=hK.body.ch y (fun b e=>by cases e;exact id);refine yd (uL 0 16) [] (.l (H.c 2) (.q6 (t+1) (.j d (rc) (.j (t+1) ((d:Int).toNat) (.l (H.c 2) (.q6 (d-1) (.j (d-1) (rc) (.j t (((d-1):Int).toNat) .z)))))))) ?_;obtain⟨aT,ah,ai⟩:=A.2.2.2.2 _ rfl;have I:((((f.map Row.val).drop t.toNat).take (d.toNat-1-t.toNat))).length=d.toNat-1-t.toNat:=by rw[im,iG,hZ];omega
  have Q:((t+1):Int).toNat=t.toNat+1:=by omega
  have aj:(t:Int).toNat=t.toNat:=by omega
  refine yK 16 (qdm 1 r (if rc=((t+1):Int).toNat then 0 else 0+((t+1):Int).toNat*1) (((d:Int).toNat-((t+1):Int).toNat)) ((rc-((t+1):Int).toNat)) (some ⟨r,if rc=(t:Int).toNat then 0 else 0+(t:Int).toNat*1,none⟩) ((((d-1):Int).toNat-(t:Int).toNat)) ((rc-(t:Int).toNat)) (((f.map Row.val).drop t.toNat).take (d.toNat-1-t.toNat)) (some 38) (d.toNat-1-t.toNat) (by omega) (by kernel_rfl) ai (by rw[aj];exact qio A (by omega)) (by rw[I];omega) (qlL _ _ _) (by rw[Q];exact qox A (by rw[I];omega)) ?_);intro aU R J;rw[Q]at R;have ak:=qlK A ah (by rw[I];omega) R;have al:=zt af J (fun i hi (h:i=r)=>h);have am:=ag.ch J (fun(h:p=r)=>by have:=hG.body.lt;omega);have an:=H.ch J (fun h=>a4 h.symm);refine q8<|yDe (nS ?_);refine yDC [12] fun aV aW B=>?_;have S:=zt al B eZ;have T:=am.ch B id;have K:=an.ch B id;have U:=ak.ch B (fun b e=>by cases e;exact id);refine ydC (uL 0 10) [] (fun u hu=>(.l (qg hu (K.c 2) id) (.l (qg hu (K.c 0) id) (.a (qap hu (T.cs 0 5) id) .z))))<|yH 10 (yC (qcL G.w s _ a0 a1) ?_);rintro _ aX ⟨o,rfl,ao,ap,L⟩;refine⟨_,rfl,?_⟩;have aq:E.heap.size<=o:=iq (zzs S) ap;have aY:Df p o:=(show¬p=o by have:=T.lt;omega)
  have aZ:Df g o:=(show¬g=o by have:=K.lt;omega)
  have ar:Df r o:=(show¬r=o by have:=U.lt;omega)
  have au:=zt S L eZ;have M:=U.ch L (fun b e=>by cases e;exact id);refine qaN L<|ydC [11] [] (fun u hu=>(.i t (f.length) .z)) ?_;obtain⟨b0,av,aw⟩:=M.2.2.2.2 _ rfl;have V:(t:Int).toNat=t.toNat:=by omega
  refine yK 12 (qaL (0+(t:Int).toNat*1) [Row.val (Row.mk o (G.w:Int).toNat (G.w:Int).toNat (List.replicate (G.w:Int).toNat (qB s)))] none (by kernel_rfl) aw (by rw[V];exact qhx M (by omega)) ?_);intro b1 W X;rw[V]at W;have Y:=qkN M av (by omega) W;rw[down1_of _ _ _ _ (by omega) (by rw[hZ];omega),<-qjp]at Y;have C:=zt au X (fun i hi (h:i=r)=>h);have ax:=ao.ch X (fun h=>ar h.symm);refine q8<|yDe (nB (nS ?_));refine q7<|yp 2 [] (.q6 ((k:Int)+1) .z) ?_;have Z:=((GridIn.rows' (x:=(Row.mk o (G.w:Int).toNat (G.w:Int).toNat (List.replicate (G.w:Int).toNat (qB s)))) hK (qmZ f t.toNat d.toNat _) (qg1 f t.toNat t.toNat (d.toNat-1-t.toNat) d.toNat (by omega) (by omega)) (qjq (by omega) (by omega)) C Y ax aq (by rw[iu]) (by rw[iu])).mono (qcc P (zzs C)) (qbZ hG0 (iq P (zzs C))))
  rw[qjp,hK.lines]at Z;refine yE (fun a ha=>ac (k+1) _ ⟨by omega,_,Z,zt v C iZ⟩ (by show m.toNat-(k+1)<m.toNat-k;omega) a (ha.kp [0,1,2,9,19,20]))
 have ay:k=m.toNat:=by omega
 refine qm (eS (qd (qb (qW ?_))));refine⟨rfl,⟨r,rc,f,?_⟩,zt ((Up.ch q).mono eZ) v (fun i _ h=>h▸hG.inF.2.1)⟩;show GridIn _ g r rc f (qeE G p1 p2 n s) _;unfold qeE qg2 cntI qg2;rw[<-ht,<-he,<-hm,<-ay];exact hK
def qjs (t e:Nat)(b:List Cel):Nat->List (List Cel)->List (List Cel)
 |0,_=>[]
 |k+1,L=>qjs t e b k L++[(upN t e b k L).getD t []]
def outG (G:Gr)(p1 p2 n:Int)(s:Sty):List (List Cel):=qjs (qg2 G p1).toNat (qg2 G p2).toNat (List.replicate G.w.toNat (qB s)) (cntI G p1 p2 n).toNat G.lines
structure OutAt (w:World)(o:Option Nat)(n cap:Nat)(outs:List Row)(K:Nat->Prop):Prop where
 own:Own w qbY 1 o n cap (outs.map Row.val)
 line:∀x∈outs,LineAt w x.b x.l x.cap/\x.l.length=x.n
 inK:∀x∈outs,K x.b
 oK:∀b,o=some b->K b
 lt:∀b,K b->b<w.heap.size
 hi:∀b,K b->gTop<=b
theorem OutAt.len {w:World}{o:Option Nat}{n cap:Nat}{outs:List Row}{K:Nat->Prop}(h:OutAt w o n cap outs K):outs.length=n:=by
 have:=h.own.1;rw[hZ,iN]at this;exact this
theorem OutAt.ch {w w':World}{o:Option Nat}{n cap:Nat}{outs:List Row}{K B:Nat->Prop}(h:OutAt w o n cap outs K)(hc:Ch B w w')(hB:∀b,K b-> ¬B b):OutAt w' o n cap outs K:=
 {own:=h.own.ch hc fun b e=>hB b (h.oK b e)
  line:=fun x hx=>⟨(h.line x hx).1.ch hc (hB _ (h.inK x hx)),(h.line x hx).2⟩
  inK:=h.inK,oK:=h.oK,hi:=h.hi
  lt:=fun b hb=>ic (h.lt b hb) hc.size}
theorem OutAt.nil (w:World):OutAt w none 0 0 [] (fun _=>False):=
 ⟨Own.nil _ _ _,(fun x hx=>by cases hx),(fun x hx=>by cases hx),(fun b e=>by cases e),fun _ h=>h.elim,fun _ h=>h.elim⟩
def gridF (g r:Nat)(rows:List Row):Nat->Prop:=fun b=>b=g\/b=r\/ ∃x∈rows,x.b=b
theorem GridIn.least {w:World}{g r cap:Nat}{rows:List Row}{G:Gr}{F:Nat->Prop}(h:GridIn w g r cap rows G F):GridIn w g r cap rows G (gridF g r rows):=
 {h with
  inF:=⟨.inl rfl,.inr (.inl rfl),fun x hx=> .inr (.inr ⟨x,hx,rfl⟩)⟩
  lt:=fun b hb=>by
   rcases hb with rfl|rfl|⟨x,hx,rfl⟩
   ·exact h.lt _ h.inF.1
   ·exact h.lt _ h.inF.2.1
   ·exact h.lt _ (h.inF.2.2 x hx)
  hi:=fun b hb=>by
   rcases hb with rfl|rfl|⟨x,hx,rfl⟩
   ·exact h.hi _ h.inF.1
   ·exact h.hi _ h.inF.2.1
   ·exact h.hi _ (h.inF.2.2 x hx)}
theorem qoz {w:World}{g r cap:Nat}{rows:List Row}{G:Gr}{F:Nat->Prop}(h:GridIn w g r cap rows G F):∀b,gridF g r rows b->F b:=by
 rintro b (rfl|rfl|⟨x,hx,rfl⟩)
 ·exact h.inF.1
 ·exact h.inF.2.1
 ·exact h.inF.2.2 x hx
theorem tys:qbY≠qdn:=by decide
theorem qaP {w:World}{o:Option Nat}{n cap b c2:Nat}{xs:List Value}{l:List Cel}(ho:Own w qbY 1 o n cap xs)(hl:LineAt w b l c2):o≠some b:=by
 intro e;obtain⟨d,_,a⟩:=ho.2.2.2.2 b e;obtain⟨f,_,c⟩:=hl.blk;exact tys (a.inj c).2
theorem qoA {rows:List Row}{t e:Nat}{x y:Row}(hn:(rows.map Row.b).Nodup)(ht:rows[t]? =some x)(hte:t<e)(hy:y.b≠x.b):∀z∈up1 rows t e y,z.b≠x.b:=by
 obtain⟨c,rfl⟩:=io.1 ht;intro z hz;unfold up1 at hz;simp only[iD,iA]at hz;have a:∀j,j≠t->rows[j]? =some z->z.b≠rows[t].b:=fun j hj d e=>by
  obtain⟨f,rfl⟩:=io.1 d;exact hj (qos hn f c e)
 rcases hz with((h|h)|h)|h
 ·obtain⟨j,hj⟩:=kh h
  rw[j5]at hj;split at hj
  ·exact a j (by omega) hj
  ·cases hj
 ·obtain⟨j,hj⟩:=kh h
  rw[j5]at hj;split at hj
  ·rw[jg]at hj
   exact a (t+1+j) (by omega) hj
  ·cases hj
 ·rw[h];exact hy
 ·obtain⟨j,hj⟩:=kh h
  rw[jg]at hj;exact a (e+j) (by omega) hj
theorem up_round {w0 wk w':World}{g r rc:Nat}{rows:List Row}{G:Gr}{F FK:Nat->Prop}{o o':Option Nat}{k oc oc' t e:Nat}{outs:List Row}{q x:Row}{K:Nat->Prop}
  (hG0:GridAt w0 g G F) (hsz:w0.heap.size<=wk.heap.size) {L:List (List Cel)}
  (hK:GridIn wk g r rc rows ⟨G.w,G.h,L⟩ FK) (hFK:∀b,FK b->more F w0 wk b) (hO:OutAt wk o k oc outs K) (hKm:∀b,K b->more F w0 wk b) (hap:∀b,FK b-> ¬K b)
  (hq:rows[t]? =some q) (hte:t<e) (he:e<=rows.length)
  (hc:Ch (fun j=>j=r\/o=some j) wk w') (hbody:Own w' qbY 1 (some r) rows.length rc ((up1 rows t e x).map Row.val)) (hl:LineAt w' x.b x.l x.cap) (hb:wk.heap.size<=x.b) (hxl:x.l.length=G.w.toNat) (hn:x.l.length=x.n)
  (hown:Own w' qbY 1 o' (k+1) oc' ((outs++[q]).map Row.val)) (ho':o'=o\/ ∃b,o'=some b/\wk.heap.size<=b) (hox:o'≠some x.b):
  ∃FK' K',GridIn w' g r rc (up1 rows t e x) ⟨G.w,G.h,up1 L t e x.l⟩ FK'/\(∀b,FK' b->more F w0 w' b)/\OutAt w' o' (k+1) oc' (outs++[q]) K'/\(∀b,K' b->more F w0 w' b)/\(∀b,FK' b-> ¬K' b):=by
 have a:q∈rows:=jD hq;have i:∀b,o=some b-> ¬FK b:=fun b e hf=>hap b hf (hO.oK b e);have J:o≠some r:=fun e=>i r e hK.inF.2.1;have hlt':∀b,o'=some b->b<w'.heap.size:=fun b e=>by subst e;exact hown.lt
 have d:∀b,more F w0 wk b->more F w0 w' b:=fun b h=>by
  have:=hc.size;rcases h with h|⟨s,c⟩
  ·exact .inl h
  ·exact .inr ⟨s,by omega⟩
 have m:∀b,FK b->o≠some b:=fun b hf e=>i b e hf;have hG':GridIn w' g r rc (up1 rows t e x) ⟨G.w,G.h,(up1 rows t e x).map Row.l⟩ (more FK wk w'):=by
  have f:∀z∈up1 rows t e x,z=x\/z∈rows:=fun z hz=>by
   rcases j9.1 ((qin rows t e x).mem_iff.1 hz)with h|h
   ·exact .inl h
   ·exact .inr ((qg1 rows t (t+1) (e-(t+1)) e (by omega) (by omega)).subset h)
  have hg:=hK.lt _ hK.inF.1;have hr:=hK.lt _ hK.inF.2.1;have p:=qow (b:=x) hte he;refine⟨?_,p▸hbody,?_,rfl,⟨hK.ok.1,hK.ok.2.1,?_,?_⟩,hK.gr,?_,?_,⟨.inl hK.inF.1,.inl hK.inF.2.1,?_⟩,fun b hb=>(qbZ ⟨r,rc,rows,hK⟩ hc.size b hb).1,fun b hb=>(qbZ ⟨r,rc,rows,hK⟩ hc.size b hb).2⟩
  ·rw[p];exact hK.head.ch hc fun h=>h.elim (fun e=>hK.gr e.symm) (m g hK.inF.1)
  ·intro z hz
   rcases f z hz with rfl|hz
   ·exact⟨hl,hn⟩
   ·exact⟨(hK.line z hz).1.ch hc fun h=>h.elim (hK.gb z hz).2 (m _ (hK.inF.2.2 z hz)),(hK.line z hz).2⟩
  ·simp only[hZ];rw[p];exact hK.len
  ·intro l A
   obtain⟨z,hz,rfl⟩:=j7.1 A;rcases f z hz with rfl|hz
   ·exact hxl
   ·exact hK.ok.2.2.2 _ (hK.lines▸jh hz)
  ·intro z hz
   rcases f z hz with rfl|hz
   ·exact⟨by omega,by omega⟩
   ·exact hK.gb z hz
  ·have B:=(qin rows t e x).map Row.b
   rw[B.nodup_iff,k5,List.nodup_cons];have u:=qg1 rows t (t+1) (e-(t+1)) e (by omega) (by omega);refine⟨fun hx=>?_,(u.map Row.b).nodup hK.nodup⟩;obtain⟨z,hz,e⟩:=j7.1 hx;have:=hK.lt _ (hK.inF.2.2 z (u.subset hz));omega
  ·intro z hz
   rcases f z hz with rfl|hz
   ·exact .inr ⟨hb,hl.lt⟩
   ·exact .inl (hK.inF.2.2 z hz)
 have v:=hG'.least;rw[qov,hK.lines]at v;have C:=qoA (y:=x) hK.nodup hq hte (by have:=hK.lt _ (hK.inF.2.2 q a);omega);refine⟨_,fun b=>K b\/b=q.b\/o'=some b,v,fun b hb=>?_,⟨hown,?_,?_,fun b e=> .inr (.inr e),?_,?_⟩,?_,?_⟩
 ·rcases qoz hG' b hb with h|⟨s,c⟩
  ·exact d b (hFK b h)
  ·exact .inr ⟨by omega,c⟩
 ·intro z hz
  rcases iD.1 hz with hz|hz
  ·refine⟨(hO.line z hz).1.ch hc fun h=>?_,(hO.line z hz).2⟩
   rcases h with h|h
   ·exact hap r hK.inF.2.1 (h▸hO.inK z hz)
   ·exact qaP hO.own (hO.line z hz).1 h
  ·obtain rfl:=iA.1 hz
   exact⟨(hK.line z a).1.ch hc fun h=>h.elim (hK.gb z a).2 (m _ (hK.inF.2.2 z a)),(hK.line z a).2⟩
 ·intro z hz
  rcases iD.1 hz with hz|hz
  ·exact .inl (hO.inK z hz)
  ·obtain rfl:=iA.1 hz
   exact .inr (.inl rfl)
 ·rintro b (h|rfl|h)
  ·exact ic (hO.lt b h) hc.size
  ·exact ic (hK.lt _ (hK.inF.2.2 q a)) hc.size
  ·exact hlt' b h
 ·rintro b (h|rfl|h)
  ·exact hO.hi b h
  ·exact hK.hi _ (hK.inF.2.2 q a)
  ·rcases ho' with h'|⟨b',h',c⟩
   ·exact hO.hi b (hO.oK b (h'▸h))
   ·rw[h]at h';obtain rfl:=ia h'
    have M:=hK.hi _ hK.inF.1;have N:=hK.lt _ hK.inF.1;omega
 ·rintro b (h|rfl|h)
  ·exact d b (hKm b h)
  ·exact d _ (hFK _ (hK.inF.2.2 q a))
  ·rcases ho' with h'|⟨b',h',c⟩
   ·exact d b (hKm b (hO.oK b (h'▸h)))
   ·rw[h]at h';obtain rfl:=ia h'
    exact .inr ⟨by omega,hlt' b h⟩
 ·have D:∀b,K b->b<wk.heap.size:=hO.lt
  have E:∀b,FK b->o'≠some b:=fun b hf h=>by
   rcases ho' with h'|⟨b',h',c⟩
   ·exact i b (h'▸h) hf
   ·rw[h]at h';obtain rfl:=ia h'
    have:=hK.lt b hf;omega
  rintro b hb hk;have H:FK b/\b≠q.b\/b=x.b:=by
   rcases hb with rfl|rfl|⟨z,hz,rfl⟩
   ·exact .inl ⟨hK.inF.1,fun e=>(hK.gb q a).1 e.symm⟩
   ·exact .inl ⟨hK.inF.2.1,fun e=>(hK.gb q a).2 e.symm⟩
   ·rcases j9.1 ((qin rows t e x).mem_iff.1 hz)with h|h
    ·exact .inr (h▸rfl)
    ·exact .inl ⟨hK.inF.2.2 z ((qg1 rows t (t+1) (e-(t+1)) e (by omega) (by omega)).subset h),C z hz⟩
  rcases H with⟨hf,I⟩|rfl
  ·rcases hk with h|h|h
   ·exact hap b hf h
   ·exact I h
   ·exact E b hf h
  ·rcases hk with h|h|h
   ·have:=D _ h;omega
   ·have:=hK.lt _ (hK.inF.2.2 q a);omega
   ·exact hox h
theorem up_any (g:Nat)(G:Gr)(F:Nat->Prop)(p1 p2 n:Int)(s:Sty)(w:World)(hT:qai w)(hG0:GridAt w g G F):CP 197 [pX g,iX p1,iX p2,iX n,.agg #[.bool s.bold,.bool s.under,.bool s.turned,iX s.fore,iX s.back]].toArray w fun e w'=>
 ∃o n' oc outs F' K',e= .returned (.slice (o.map at0) n' oc)/\OutAt w' o n' oc outs K'/\outs.map Row.l=outG G p1 p2 n s/\GridAt w' g (upG G p1 p2 n s) F'/\(∀b,F' b->more F w w' b)/\(∀b,K' b->more F w w' b)/\(∀b,F' b-> ¬K' b)/\Ch F w w':=by
 obtain⟨r,rc,a0,hG⟩:=hG0;have hG0:GridAt w g G F:=⟨r,rc,a0,hG⟩
 obtain⟨⟨ap,aq⟩,⟨ar,au⟩,bm,bn⟩:=hG.ok;have bo:=hG.len;have av:Df r g:=hG.gr;have bp:=hG.hi _ hG.inF.1;have bq:=hG.hi _ hG.inF.2.1;refine yA Tryz.func197 rfl<|ysr<|yo (yN [.bool s.bold,.bool s.under,.bool s.turned,iX s.fore,iX s.back] 84 fun br A aw bs ax R=>?_);have bt:w.heap.size<=A:=by rw[aw];exact zzs (Ch.refl (· =r) w)
 have ay:=zu (zm w) R iZ;have az:=hG.head.ch R id;have bu:=hG.body.ch R (fun b e=>by cases e;exact id);refine yz 2<|ysr<|yq 4<|yo (yC (qjr g G p1 p2 n _ az ar au) ?_);rintro _ L ⟨t,d,m,rfl,ht,he,hm,a1⟩;refine⟨_,rfl,?_⟩;have S:=zu ay a1 iZ;have a2:=ax.ch a1 id;obtain⟨⟨t1,t2⟩,⟨t3,t4⟩,⟨t5,t6⟩⟩:=qoy G p1 p2 n (by omega) ht he hm;refine yz 12<|yx 1<|ys<|yx 2<|qa<|qV [0,1,2,9,11,21,22] (f':=[(0,pX g),(1,iX t),(2,iX d),(9,pX A),(11,nX),(21,iX m),(22,iX 0)])<|qw (σ:=Nat×Option Nat×Nat) (fun⟨k,o,oc⟩=>[(0,pX g),(1,iX t),(2,iX d),(9,pX A),(11,.slice (o.map at0) k oc),(21,iX m),(22,iX (k:Int))]) (fun⟨k,o,oc⟩ u=>k<=m.toNat/\(∀b,o=some b->L.heap.size<=b)/\Ch (· =r) L u/\ ∃v outs FK D,GridIn u g r rc v (Gr.mk G.w G.h (upN t.toNat d.toNat (List.replicate G.w.toNat (qB s)) k G.lines)) FK/\(∀b,FK b->more F w u b)/\OutAt u o k oc outs D/\(∀b,D b->more F w u b)/\(∀b,FK b-> ¬D b)/\outs.map Row.l=qjs t.toNat d.toNat (List.replicate G.w.toNat (qB s)) k G.lines) (fun⟨k,o,oc⟩=>m.toNat-k) (0,none,0) rfl ?_ ?_
 ·exact⟨ir _,(fun b e=>by cases e),Ch.refl _ _,a0,[],F,(fun _=>False),hG.ch (Up.ch S) iZ,(fun _ h=> .inl h),OutAt.nil _,(fun _ h=>h.elim),iZ,rfl⟩
 intro p C aB bB aC;obtain⟨k,o,oc⟩:=p;obtain⟨hk,ho,E,v,outs,FK,D,hK,a3,hO,a4,M,a5⟩:=aB;have aD:=a2.ch E (fun(h:A=r)=>by have:=hG.body.lt;omega);have aE:w.heap.size<=C.heap.size:=iq (zzs S) (zzs E);have bC:L.heap.size<=C.heap.size:=zzs E;have bD:v.length=G.h.toNat:=hK.len;have bE:v.length<=rc:=hK.body.2.1;have a6:¬o=some g:=fun e=>M _ hK.inF.1 (hO.oK _ e);have a7:¬o=some r:=fun e=>M _ hK.inF.2.1 (hO.oK _ e);have a8:¬o=some A:=fun e=>by have:=ho _ e;have:=a2.lt;omega
 refine yx 1<|ys<|yc (rL (k:Int) m) (fun aF=>?_) fun aF=>?_
 ·obtain⟨q,T⟩:=row_some hK (y:=t) t1 (show t<G.h by omega);refine yk<|ys<|qa<|ysr<|yp 8 [] (.l (hK.head.c 2) (.i t (v.length) (.l (qct hK.body T) .z)))<|yo (yB [.slice (some ⟨q.b,0,none⟩) q.n q.cap] 118 1 fun bF a9 aG bG aH H=>?_);have bH:C.heap.size<=a9:=by rw[aG];exact zzs (Ch.refl (fun j=>j=r\/o=some j) C)
  have U:=zt (Ch.refl (fun j=>j=r\/o=some j) C) H eZ;have aa:=aD.ch H id;have ab:=hK.head.ch H id;have ac:=hK.body.ch H (fun b e=>by cases e;exact id);have aI:=hO.own.ch H iZ;refine yo (qaE 118 1 24 o k oc (outs.map Row.val) (some ⟨a9,0,none⟩) 1 1 [Row.val q] (some 33) (k+1) rfl ((outs++[q]).map Row.val) (by rw[iI];rfl) (by kernel_rfl) aI (Rd.all aH) rfl rfl (fun h=>by cases h) (by constructor<;>first|omega|(simp only[maxLen];omega)) ?_);intro bI aJ aK aL I aM N;obtain⟨B,rfl⟩:∃b,aJ=some b:=aM (by omega);have bJ:Df A B:=qbs I (fun e=>a8 e) aa.lt;have bK:Df g B:=qbs I (fun e=>a6 e) ab.lt;have ad:Df r B:=qbs I (fun e=>a7 e) ac.lt;have aN:=zt U N (fun _ _ h=> .inr h);have aO:=aa.ch N a8;have aP:=ab.ch N a6;have aQ:=ac.ch N (fun b e=>by cases e;exact a7);refine yz 11<|ys<|yD [16] fun bL bM J=>?_;have aR:=zt aN J eZ;have aS:=aO.ch J id;have V:=aP.ch J id;have O:=aQ.ch J (fun b e=>by cases e;exact id);have aT:=aL.ch J iZ;refine yd (uL 0 16) [] (.l (V.c 2) (.q6 (d-1) (.j (d-1) (rc) (.j t (((d-1):Int).toNat) (.l (V.c 2) (.q6 (t+1) (.j d (rc) (.j (t+1) ((d:Int).toNat) .z)))))))) ?_;obtain⟨bN,aU,aV⟩:=O.2.2.2.2 _ rfl;have W:((((v.map Row.val).drop (t.toNat+1)).take (d.toNat-1-t.toNat))).length=d.toNat-1-t.toNat:=by rw[im,iG,hZ];omega
  have ae:(t:Int).toNat=t.toNat:=by omega
  have aW:((t+1):Int).toNat=(t.toNat+1):=by omega
  refine yK 16 (qdm 1 r (if rc=(t:Int).toNat then 0 else 0+(t:Int).toNat*1) ((((d-1):Int).toNat-(t:Int).toNat)) ((rc-(t:Int).toNat)) (some ⟨r,if rc=((t+1):Int).toNat then 0 else 0+((t+1):Int).toNat*1,none⟩) (((d:Int).toNat-((t+1):Int).toNat)) ((rc-((t+1):Int).toNat)) (((v.map Row.val).drop (t.toNat+1)).take (d.toNat-1-t.toNat)) (some 50) (d.toNat-1-t.toNat) (by omega) (by kernel_rfl) aV (by rw[aW];exact qio O (by omega)) (by rw[W];omega) (qlL _ _ _) (by rw[ae];exact qox O (by rw[W];omega)) ?_);intro bO af P;rw[ae]at af;have aX:=qlK O aU (by rw[W];omega) af;have aY:=zt aR P (fun i hi (h:i=r)=> .inl h);have aZ:=aS.ch P (fun(h:A=r)=>by have:=hG.body.lt;omega);have b0:=V.ch P (fun h=>av h.symm);have b1:=aT.ch P (fun b e=>by cases e;exact(fun h=>ad h.symm));refine q8<|yDe (nS ?_);refine yDC [13] fun bP bQ K=>?_;have ag:=zt aY K eZ;have ah:=aZ.ch K id;have X:=b0.ch K id;have ai:=b1.ch K iZ;have aj:=aX.ch K (fun b e=>by cases e;exact id);refine ydC (uL 0 11) [] (fun u hu=>(.l (qg hu (X.c 2) id) (.q6 (d-1) (.l (qg hu (X.c 0) id) (.a (qap hu (ah.cs 0 5) id) .z)))))<|yH 11 (yC (qcL G.w s _ ap aq) ?_);rintro _ bR ⟨f,rfl,b2,b3,Q⟩;refine⟨_,rfl,?_⟩;have b4:C.heap.size<=f:=iq (zzs ag) b3;have bS:Df A f:=(show¬A=f by have:=ah.lt;omega)
  have bT:Df g f:=(show¬g=f by have:=X.lt;omega)
  have b5:Df B f:=(show¬B=f by have:=ai.lt;omega)
  have b6:Df r f:=(show¬r=f by have:=aj.lt;omega)
  have b7:=zt ag Q eZ;have b8:=ai.ch Q iZ;have Y:=aj.ch Q (fun b e=>by cases e;exact id);refine qaN Q<|ydC [12] [] (fun u hu=>(.i (d-1) (v.length) .z)) ?_;obtain⟨bU,b9,ba⟩:=Y.2.2.2.2 _ rfl;have ak:((d-1):Int).toNat=(d.toNat-1):=by omega
  refine yK 13 (qaL (0+((d-1):Int).toNat*1) [Row.val (Row.mk f (G.w:Int).toNat (G.w:Int).toNat (List.replicate (G.w:Int).toNat (qB s)))] none (by kernel_rfl) ba (by rw[ak];exact qhx Y (by omega)) ?_);intro bV al Z;rw[ak]at al;have am:=qkN Y b9 (by omega) al;rw[up1_of _ _ _ _ (by omega) (by rw[hZ];omega),<-qov]at am;have an:=zt b7 Z (fun i hi (h:i=r)=> .inl h);have bb:=b8.ch Z (fun b e=>by cases e;exact(fun h=>ad h.symm));have bc:=b2.ch Z (fun h=>b6 h.symm);refine q8<|yDe (nB (nS ?_));refine q7<|yp 2 [] (.q6 ((k:Int)+1) .z) ?_;obtain⟨bd,K',q1,q2,q3,q4,q5⟩:=up_round (x:=(Row.mk f (G.w:Int).toNat (G.w:Int).toNat (List.replicate (G.w:Int).toNat (qB s)))) hG0 aE hK a3 hO a4 M T (show t.toNat<d.toNat by omega) (by omega) an am bc b4 (by rw[iu]) (by rw[iu]) bb (I.imp id fun⟨b,e,h⟩=>⟨b,e,iq (zzs U) h⟩) (fun e=>b5 (zi e));have bk:∀b,some B=some b->L.heap.size<=b:=fun b e=>by
   rcases I with h|⟨b',h,h'⟩
   ·exact ho b (h▸e)
   have e1:=zi e;have d:=zi h;have:=zzs U;omega
  have bl:(outs++[q]).map Row.l=qjs t.toNat d.toNat (List.replicate G.w.toNat (qB s)) (k+1) G.lines:=by rw[iI,a5];exact congrArg (fun z=>_++[z]) (qex hK T).1
  refine yE (fun a ha=>aC (k+1,some B,aK) _ ⟨by omega,bk,zt E an (fun i hi h=>h.elim id (fun e=>by have:=ho _ e;omega)),_,_,bd,K',q1,q2,q3,q4,q5,bl⟩ (by show m.toNat-(k+1)<m.toNat-k;omega) a (ha.kp [0,1,2,9,11,21,22]))
 have ao:k=m.toNat:=by omega
 refine qm (eS (qd (qb (nS ?_))));refine yx 2<|q9 (yR1 (.slice (o.map at0) k oc) ?_);exact⟨o,k,oc,outs,FK,D,rfl,hO,(by unfold outG qg2 cntI qg2;rw[<-ht,<-he,<-hm,<-ao];exact a5),⟨r,rc,v,(by show GridIn _ g r rc v (upG G p1 p2 n s) _;unfold upG qg2 cntI qg2;rw[<-ht,<-he,<-hm,<-ao];exact hK)⟩,a3,a4,M,zt ((Up.ch S).mono eZ) E (fun i _ h=>h▸hG.inF.2.1)⟩
structure NewRows (wb w:World)(o:Option Nat)(n cap:Nat)(rows:List Row)(W:Int):Prop where
 out:OutAt w o n cap rows (fun b=>wb.heap.size<=b/\b<w.heap.size)
 nodup:(rows.map Row.b).Nodup
 wide:∀x∈rows,x.l.length=W.toNat
theorem NewRows.nil {w:World}(W:Int):NewRows w w none 0 0 [] W:=
 ⟨⟨Own.nil _ _ _,(fun x hx=>by cases hx),(fun x hx=>by cases hx),(fun b e=>by cases e),(fun b h=>by omega),(fun b h=>by omega)⟩,by simp,(fun x hx=>by cases hx)⟩
theorem NewRows.lo {wb w:World}{o:Option Nat}{n cap:Nat}{rows:List Row}{W:Int}(h:NewRows wb w o n cap rows W):∀b,o=some b->wb.heap.size<=b:=fun b e=>(h.out.oK b e).1
theorem qeF {wb wk w':World}{o o':Option Nat}{k oc oc':Nat}{rows:List Row}{W:Int}{x:Row}{S:Nat->Prop}(h:NewRows wb wk o k oc rows W)(h7:gTop<=wb.heap.size)(hs:wb.heap.size<=wk.heap.size)
  (hc:Ch S wk w') (hS:∀b,S b->b<wb.heap.size\/o=some b) (hl:LineAt w' x.b x.l x.cap) (hb:wk.heap.size<=x.b) (hxl:x.l.length=W.toNat) (hn:x.l.length=x.n)
  (hown:Own w' qbY 1 o' (k+1) oc' ((rows++[x]).map Row.val)) (ho':o'=o\/ ∃b,o'=some b/\wk.heap.size<=b):NewRows wb w' o' (k+1) oc' (rows++[x]) W:=by
 have f:=hc.size;have hlt':∀b,o'=some b->b<w'.heap.size:=fun b e=>by subst e;exact hown.lt
 refine⟨⟨hown,?_,?_,?_,fun b h=>h.2,fun b h=>by omega⟩,?_,?_⟩
 ·intro z hz
  rcases iD.1 hz with hz|hz
  ·have hk:=h.out.inK z hz
   refine⟨(h.out.line z hz).1.ch hc fun d=>?_,(h.out.line z hz).2⟩;rcases hS _ d with c|c
   ·omega
   ·exact qaP h.out.own (h.out.line z hz).1 c
  ·obtain rfl:=iA.1 hz
   exact⟨hl,hn⟩
 ·intro z hz
  rcases iD.1 hz with hz|hz
  ·have:=h.out.inK z hz;omega
  ·obtain rfl:=iA.1 hz
   exact⟨by omega,hl.lt⟩
 ·intro b e
  have:=hlt' b e;rcases ho' with h'|⟨b',h',g⟩
  ·have:=h.lo b (h'▸e);omega
  ·rw[e]at h';obtain rfl:=ia h';omega
 ·rw[iI,List.nodup_append]
  refine⟨h.nodup,by simp,fun a ha b hb e=>?_⟩;obtain⟨z,hz,rfl⟩:=j7.1 ha;simp only[k5,List.map_nil,iA]at hb;have:=(h.out.inK z hz).2;omega
 ·intro z hz
  rcases iD.1 hz with hz|hz
  ·exact h.wide z hz
  ·obtain rfl:=iA.1 hz;exact hxl
theorem NewRows.grid {wb w:World}{r cap g n:Nat}{rows:List Row}{W H:Int}{F:Nat->Prop}(h:NewRows wb w (some r) n cap rows W)(hg:Blk w g [.int .i64 W,.int .i64 H,.slice (some ⟨r,0,none⟩) n cap] qgo)(hgb:g<wb.heap.size)
  (hW:1<=W/\W<=60) (hH:1<=H/\H<=60) (hn:n=H.toNat) (hFg:F g) (hF:∀b,wb.heap.size<=b/\b<w.heap.size->F b) (hok:∀b,F b->b<w.heap.size/\gTop<=b):GridIn w g r cap rows ⟨W,H,rows.map Row.l⟩ F:=by
 have a:=h.out.len;have hr:=(h.out.oK r rfl)
 refine⟨by rw[a];exact hg,by rw[a];exact h.out.own,h.out.line,rfl,⟨hW,hH,?_,?_⟩,?_,?_,h.nodup,⟨hFg,hF r hr,fun x hx=>hF _ (h.out.inK x hx)⟩,fun b hb=>(hok b hb).1,fun b hb=>(hok b hb).2⟩
 ·show(rows.map Row.l).length=_
  rw[hZ,a,hn]
 ·intro l hl
  obtain⟨x,hx,rfl⟩:=j7.1 hl;exact h.wide x hx
 ·intro e;subst e;omega
 ·intro x hx
  have:=h.out.inK x hx;refine⟨by omega,fun e=>?_⟩;exact qaP h.out.own (h.out.line x hx).1 (e▸rfl)
theorem NewRows.some {wb w:World}{o:Option Nat}{n cap:Nat}{rows:List Row}{W:Int}(h:NewRows wb w o n cap rows W)(hn:0<n):∃r,o=some r:=by
 cases o with
 |none=>have:=(h.out.own.2.2.2.1 rfl).1;omega
 |some r=>exact⟨r,rfl⟩
def qkF (w h:Int):Gr:=⟨qj w,qj h,List.replicate (qj h).toNat (List.replicate (qj w).toNat (qB qdd))⟩
def qlM (l:List Cel)(w:Int):List Cel:=if w<=(l.length:Nat)then qew (l.take w.toNat)else l++List.replicate (w-(l.length:Nat)).toNat (qB qdd)
theorem qoB {w:World}{g:Nat}{G:Gr}{F:Nat->Prop}(h:GridAt w g G F):gTop<=w.heap.size:=by
 have a:=h.hi g h.inF;have b:=h.glt;omega
theorem rd_take {w:World}{a:Option Addr}{l:List Cel}(h:Rd w a (qan l))(k:Nat):Rd w a (qan (l.take k)):=
 ⟨fun e=>by
  have:=h.1 e
  rw[<-qgn,this];simp,fun ad e j u hj=>h.2 ad e j u (by
   rw[<-qgn,j5]at hj
   split at hj
   ·exact hj
   ·cases hj)⟩
theorem qoC (p1 p2:Int)(w:World)(hT:qai w)(h7:gTop<=w.heap.size):CP 96 [iX p1,iX p2].toArray w fun e w'=>
 ∃g F,e= .returned (pX g)/\GridAt w' g (qkF p1 p2) F/\(∀b,F b->w.heap.size<=b)/\Ch (fun _=>False) w w':=by
 have a0:1<=qj p1/\qj p1<=60:=by unfold qj;omega
 have a1:1<=qj p2/\qj p2<=60:=by unfold qj;omega
 refine yA Tryz.func96 rfl<|yx 1<|ysr<|yq 1<|yo (yQ (qeC p1 _) fun aE a2=>?_);have a3:=zu (zm w) a2 iZ;refine yq 3<|yo (yQ (qeC p2 _) fun aF a4=>?_);have L:=zu a3 a4 iZ;refine yq 5<|yo (yN [iX (qj p1),iX (qj p2),nX] 112 fun m d a5 aG y a6=>?_);have aH:=zn a5 L;have G:=zu L a6 iZ;refine yz 7<|ys<|ysr<|yp 5 [] (.l (y.c 1) .z)<|ye<|qa<|qV [5,15,16] (f':=[(5,pX d),(15,iX (qj p2)),(16,iX 0)])<|qw (σ:=Nat×Option Nat×Nat) (fun⟨k,o,oc⟩=>[(5,pX d),(15,iX (qj p2)),(16,iX (k:Int))]) (fun⟨k,o,oc⟩ u=>k<=(qj p2).toNat/\Ch (· =d) m u/\ ∃n,Blk u d [iX (qj p1),iX (qj p2),.slice (o.map at0) k oc] qgo/\NewRows m u o k oc n (qj p1)/\n.map Row.l=List.replicate k (List.replicate (qj p1).toNat (qB qdd))) (fun⟨k,o,oc⟩=>(qj p2).toNat-k) (0,none,0) rfl ?_ ?_
 ·exact⟨ir _,Ch.refl _ _,[],y,NewRows.nil _,rfl⟩
 intro p t a7 aI a8;obtain⟨k,o,oc⟩:=p;obtain⟨hk,A,n,hB,hN,M⟩:=a7;have a9:=zu G A (fun i hi (h:i=d)=>by omega);have aJ:w.heap.size<=m.heap.size:=zzs G;have aa:m.heap.size<=t.heap.size:=zzs A;have ab:d<m.heap.size:=y.lt;refine yx 1<|ys<|yc (rL (k:Int) (qj p2)) (fun ac=>?_) fun ac=>?_
 ·refine yk<|ys<|qa<|yDC [12,15] fun aK aL v=>?_;have ad:=zu a9 v iZ;have N:=zt A v eZ;have O:=zt (Ch.refl (fun j=>j=d\/o=some j) t) v eZ;have B:=hB.ch v id;have ae:=hN.out.own.ch v iZ;refine ydC (uL 0 10) [] (fun u hu=>(.l (qg hu (B.c 2) id) (.l (qg hu (B.c 0) id) .z)))<|yH 10 (yC (qcL (qj p1) qdd _ (by omega) (by omega)) ?_);rintro _ aM ⟨f,rfl,af,P,q⟩;refine⟨_,rfl,?_⟩;have ag:t.heap.size<=f:=iq (zzs O) P;have aN:m.heap.size<=f:=iq (zzs N) P;have ah:Df d f:=(show¬d=f by have:=B.lt;omega)
  have ai:=zu ad q iZ;have Q:=zt N q eZ;have R:=zt O q eZ;have aj:=B.ch q id;have ak:=ae.ch q iZ;refine qaN q<|yH 11 (yB [.slice (some ⟨f,0,none⟩) ((qj p1):Int).toNat ((qj p1):Int).toNat] 118 1 fun aO H I aP al s=>?_);have aQ:=zn I ai;have aR:m.heap.size<=H:=by rw[I];exact zzs Q
  have aS:t.heap.size<=H:=by rw[I];exact zzs R
  have am:=zt Q s eZ;have S:=zt R s eZ;have T:=aj.ch s id;have U:=ak.ch s iZ;have J:=af.ch s id;refine qaN s ?_;refine yK 12 (qaE 118 1 24 o k oc (n.map Row.val) (some ⟨H,0,none⟩) 1 1 [Row.val (Row.mk f ((qj p1):Int).toNat ((qj p1):Int).toNat (List.replicate ((qj p1):Int).toNat (qB qdd)))] (some 30) (k+1) rfl ((n++[(Row.mk f ((qj p1):Int).toNat ((qj p1):Int).toNat (List.replicate ((qj p1):Int).toNat (qB qdd)))]).map Row.val) (by rw[iI];rfl) (by kernel_rfl) U (Rd.all al) rfl rfl (fun h=>by cases h) (by constructor<;>first|omega|(simp only[maxLen];omega)) ?_);intro aT an V ao K ap C;obtain⟨D,rfl⟩:∃b,an=some b:=ap (by omega);have W:¬o=some d:=fun e=>by have:=hN.lo _ e;have:=y.lt;omega
  have X:¬o=some f:=qaP U J;have aq:Df d D:=qbs K (fun e=>W e) T.lt;have aU:Df f D:=qbs K (fun e=>X e) J.lt;have ar:=zt am C (fun i hi h=>by have:=hN.lo _ h;omega);have au:=zt S C (fun _ _ h=> .inr h);have av:=T.ch C W;have aw:=J.ch C X;refine q8<|yd [13,14] [] .z<|yK 15 (yT [iX (qj p1),iX (qj p2),.slice (some ⟨D,0,none⟩) (k+1) V] av fun aV ax E=>?_);have ay:=zt ar E iZ;have az:=zt au E (fun i _ (h:i=d)=> .inl h);have aA:=aw.ch E (fun h=>ah h.symm);have aB:=ao.ch E (fun b e=>by cases e;exact(fun h=>aq h.symm));refine q8<|yDe (nB (nS ?_));refine q7<|yp 2 [] (.q6 ((k:Int)+1) .z) ?_;have aC:=qeF (x:=(Row.mk f ((qj p1):Int).toNat ((qj p1):Int).toNat (List.replicate ((qj p1):Int).toNat (qB qdd)))) hN (by omega) aa az (fun b h=>h.imp (fun e=>by omega) id) aA ag (by rw[iu]) (by rw[iu]) aB (K.imp id fun⟨b,e,h⟩=>⟨b,e,iq (zzs S) h⟩);have aD:(n++[(Row.mk f ((qj p1):Int).toNat ((qj p1):Int).toNat (List.replicate ((qj p1):Int).toNat (qB qdd)))]).map Row.l=List.replicate (k+1) (List.replicate (qj p1).toNat (qB qdd)):=by rw[iI,M,jL];rfl
  refine yE (fun a ha=>a8 (k+1,some D,V) _ ⟨by omega,ay,_,ax,aC,aD⟩ (by show(qj p2).toNat-(k+1)<(qj p2).toNat-k;omega) a (ha.kp [5,15,16]))
 have Y:k=(qj p2).toNat:=by omega
 obtain⟨r,rfl⟩:=hN.some (by omega);refine qm (eS (qd (qb (nS ?_))));refine yx 2<|q9 (yR1 (pX d) ?_);have Z:=hN.grid (F:=fun b=>w.heap.size<=b/\b<t.heap.size) hB ab a0 a1 Y ⟨by omega,by omega⟩ (fun b h=>⟨by omega,h.2⟩) (fun b h=>⟨h.2,by omega⟩);rw[M,Y]at Z;exact⟨d,_,rfl,⟨r,oc,n,Z⟩,(fun _ h=>h.1),zt (Up.ch G) A (fun i hi (h:i=d)=>by omega)⟩
theorem fit_any (b n cap:Nat)(l:List Cel)(p:Int)(w:World)(hT:qai w)(hr:Rd w (some ⟨b,0,none⟩) (qan l))(hb:b<w.heap.size)(hn:l.length=n)(hcap:n<=cap)(hnb:n<=60)(hp:0<=p/\p<=60):CP 133 [.slice (some ⟨b,0,none⟩) n cap,iX p].toArray w fun e w'=>
 ∃g cap',e= .returned (.slice (some ⟨g,0,none⟩) (max p 0).toNat cap')/\LineAt w' g (qlM l (max p 0)) cap'/\w.heap.size<=g/\Ch (fun _=>False) w w':=by
 refine yA Tryz.func133 rfl<|yx 1<|yx 3<|ys<|yx 4<|yc (rM (max (p:Int) 0) (n:Int)) (fun x=>?_) fun x=>?_
 ·refine ysr<|yp 3 [] (.j (max (p:Int) 0) (cap) .z)<|yo (yC (qeB b ((max (p:Int) 0):Int).toNat cap (l.take (max (p:Int) 0).toNat) _ hT (rd_take hr _) (ic hb (zzs (zm w))) (by rw[im];omega) (by omega)) ?_);rintro _ R ⟨d,s,rfl,y,A,B⟩;refine⟨_,rfl,?_⟩;have C:w.heap.size<=d:=iq (zzs (zm w)) A;have S:Df b d:=(show¬b=d by have:=(ic hb (zzs (zm w)));omega)
  have D:=zu (zm w) B iZ;refine yz 5<|q9 (rS (yR1 (.slice (some ⟨d,0,none⟩) ((max (p:Int) 0):Int).toNat s) ?_));rw[show qlM l (max (p:Int) 0)=qew (l.take (max (p:Int) 0).toNat)from if_pos (by omega)];exact⟨d,s,rfl,y,C,Up.ch D⟩
 refine yk<|ysr<|yq 1<|yo (yC (qey b n cap l _ hr (ic hb (zzs (zm w))) hn (by omega)) ?_);rintro _ T ⟨a,E,rfl,t,F,G⟩;refine⟨_,rfl,?_⟩;have U:w.heap.size<=a:=iq (zzs (zm w)) F;have H:Df b a:=(show¬b=a by have:=(ic hb (zzs (zm w)));omega)
 have m:=zu (zm w) G iZ;refine yp 7 [] (.q6 ((max (p:Int) 0)-(n:Int)) .z)<|yo (yC (qcL ((max (p:Int) 0)-(n:Int)) qdd _ (by omega) (by omega)) ?_);rintro _ V ⟨c,rfl,u,I,v⟩;refine⟨_,rfl,?_⟩;have W:w.heap.size<=c:=iq (zzs m) I;have X:Df b c:=(show¬b=c by have:=(ic hb (zzs m));omega)
 have J:Df a c:=(show¬a=c by have:=t.lt;omega)
 have o:=zu m v iZ;have K:=t.ch v id;refine yo (qaE 159 6 32 (some a) n E (qan l) (some ⟨c,0,none⟩) (((max (p:Int) 0)-(n:Int)):Int).toNat (((max (p:Int) 0)-(n:Int)):Int).toNat (qan (List.replicate (((max (p:Int) 0)-(n:Int)):Int).toNat (qB qdd))) (some 23) (max (p:Int) 0).toNat (by omega) (qan (l++(List.replicate ((max (p:Int) 0)-(n:Int)).toNat (qB qdd)))) (qbL _ _).symm (by kernel_rfl) (by rw[<-hn];exact K) u.rd (by rw[qaO,iu]) (by first|rfl|exact qaY _) (fun h=>by cases h) (by constructor<;>(first|omega|(simp only[maxLen];omega))) ?_);intro L M q N k Y r;obtain⟨f,rfl⟩:∃g,M=some g:=by rcases k with h|⟨g,h,_⟩<;>exact⟨_,h⟩
 have Z:Df b f:=qbs k (fun h=>H (zi h).symm) (ic hb (zzs o));have a0:Df c f:=qbs k (fun h=>(fun h=>J h.symm) (zi h).symm) u.lt;replace r:=qif r;have O:=zu o r (fun i hi (h:i=a)=>by omega);have P:(l++(List.replicate ((max (p:Int) 0)-(n:Int)).toNat (qB qdd))).length=(max (p:Int) 0).toNat:=by rw[hJ,iu];omega
 have Q:LineAt L f (l++(List.replicate ((max (p:Int) 0)-(n:Int)).toNat (qB qdd))) q:=by unfold LineAt;rw[P];exact N
 refine yz 10<|q9 (yR1 (.slice (some ⟨f,0,none⟩) (max (p:Int) 0).toNat q) ?_);rw[show qlM l (max (p:Int) 0)=l++(List.replicate ((max (p:Int) 0)-(n:Int)).toNat (qB qdd)) by unfold qlM;rw[if_neg (by omega),hn]];exact⟨f,q,rfl,Q,qlF k (by omega) (zzs o),Up.ch O⟩
structure LinesAt (w:World)(a:Option Addr)(n:Nat)(rows:List Row)(K:Nat->Prop):Prop where
 rd:Rd w a (rows.map Row.val)
 len:rows.length=n
 line:∀x∈rows,LineAt w x.b x.l x.cap/\x.l.length=x.n
 inK:∀x∈rows,K x.b
 aK:∀ad,a=some ad->K ad.block
 lt:∀b,K b->b<w.heap.size
 hi:∀b,K b->gTop<=b
theorem OutAt.lines {w:World}{o:Option Nat}{n cap:Nat}{outs:List Row}{K:Nat->Prop}(h:OutAt w o n cap outs K):LinesAt w (o.map at0) n outs K:=
 ⟨h.own.rd,h.len,h.line,h.inK,(fun ad e=>by
  cases o with
  |none=>cases e
  |some b=>cases e;exact h.oK b rfl),fun b hb=>h.lt b hb,fun b hb=>h.hi b hb⟩
theorem LinesAt.ch {w w':World}{a:Option Addr}{n:Nat}{rows:List Row}{K B:Nat->Prop}(h:LinesAt w a n rows K)(hc:Ch B w w')(hB:∀b,K b-> ¬B b):LinesAt w' a n rows K:=
 {rd:=h.rd.ch hc fun ad e=>hB _ (h.aK ad e)
  len:=h.len
  line:=fun x hx=>⟨(h.line x hx).1.ch hc (hB _ (h.inK x hx)),(h.line x hx).2⟩
  inK:=h.inK,aK:=h.aK,hi:=h.hi
  lt:=fun b hb=>ic (h.lt b hb) hc.size}
theorem LinesAt.mono {w:World}{a:Option Addr}{n:Nat}{rows:List Row}{K K':Nat->Prop}(h:LinesAt w a n rows K)(hK:∀b,K b->K' b)(hl:∀b,K' b->b<w.heap.size/\gTop<=b):LinesAt w a n rows K':=
 {h with inK:=fun x hx=>hK _ (h.inK x hx),aK:=fun ad e=>hK _ (h.aK ad e),lt:=fun b hb=>(hl b hb).1,hi:=fun b hb=>(hl b hb).2}
theorem NewRows.ch {wb w w':World}{o:Option Nat}{n cap:Nat}{rows:List Row}{W:Int}{B:Nat->Prop}(h:NewRows wb w o n cap rows W)(hc:Ch B w w')(hB:∀b,wb.heap.size<=b-> ¬B b)(h7:gTop<=wb.heap.size):NewRows wb w' o n cap rows W:=by
 have hs:=hc.size;have a:=h.out.ch hc fun b hb=>hB b hb.1;refine⟨⟨a.own,a.line,fun x hx=>?_,fun b e=>?_,fun b hb=>hb.2,fun b hb=>?_⟩,h.nodup,h.wide⟩
 ·have:=h.out.inK x hx;omega
 ·have:=h.out.oK b e;omega
 ·omega
theorem qip {l:List Cel}{w:Int}(h0:0<=w):(qlM l w).length=w.toNat:=by
 unfold qlM;split
 ·rw[qaH,im];omega
 ·rw[hJ,iu];omega
def qde (G:Gr)(w:Int)(a k:Nat):List (List Cel):=((G.lines.drop a).take k).map fun l=>qlM l w
def qeb (G:Gr)(p1 p2 p3:Int):Gr:=
 ⟨qj p1,qj p2,qde G (max (qj p1) 0) (qg2 G p3).toNat (min (G.h.toNat-(qg2 G p3).toNat) (qj p2).toNat)++
  List.replicate ((qj p2).toNat-min (G.h.toNat-(qg2 G p3).toNat) (qj p2).toNat) (List.replicate (qj p1).toNat (qB qdd))⟩
theorem qoD {w:World}{g r cap:Nat}{rows:List Row}{G:Gr}{F:Nat->Prop}(h:GridIn w g r cap rows G F){a j:Nat}{q:Row}(hq:rows[a+j]? =some q)(W:Int):qde G W a (j+1)=qde G W a j++[qlM q.l W]:=by
 unfold qde;have e:(G.lines.drop a)[j]? =some q.l:=by rw[jg,<-h.lines,iM,hq];rfl
 obtain⟨b,he⟩:=io.1 e;rw[j4 b,iI,he];rfl
theorem qoE {w:World}{r cap n a:Nat}{rows:List Row}{j:Int}{x:Row}(h:Own w qbY 1 (some r) n cap (rows.map Row.val))(hx:rows[a+j.toNat]? =some x)(ha:¬cap=a):w.cell? ⟨r,(if cap=a then 0 else 0+a*1)+j.toNat*1,none⟩=some x.val:=by
 rw[if_neg ha,iN,iN,jR];refine qcg (Own.rd h) (a+j.toNat) _ ?_;rw[iM,hx];rfl
theorem GridIn.first {w w':World}{g r cap:Nat}{rows:List Row}{G:Gr}{F:Nat->Prop}(h:GridIn w g r cap rows G F)(a:Nat)(ha:a<=rows.length)(hc:Ch (fun j=>j=g) w w'):LinesAt w' (some ⟨r,0,none⟩) a (rows.take a) (fun b=>b=r\/ ∃x∈rows,x.b=b):=by
 have hr:=h.body.ch hc fun b e=>by cases e;exact h.gr
 have c:∀x∈rows.take a,x∈rows:=fun x hx=>iS hx;refine⟨?_,by rw[im];omega,fun x hx=>⟨(h.line x (c x hx)).1.ch hc (h.gb x (c x hx)).1,(h.line x (c x hx)).2⟩,fun x hx=> .inr ⟨x,c x hx,rfl⟩,(fun ad e=>by cases e;exact .inl rfl),?_,?_⟩
 ·have:=hr.rd
  refine⟨(fun e=>by cases e),fun ad e j u hj=>this.2 ad e j u ?_⟩;rw[k4,j5]at hj;split at hj
  ·exact hj
  ·cases hj
 ·rintro b (rfl|⟨x,hx,rfl⟩)
  ·exact ic (h.lt _ h.inF.2.1) hc.size
  ·exact ic (h.lt _ (h.inF.2.2 x hx)) hc.size
 ·rintro b (rfl|⟨x,hx,rfl⟩)
  ·exact h.hi _ h.inF.2.1
  ·exact h.hi _ (h.inF.2.2 x hx)
theorem qhy (g:Nat)(G:Gr)(F:Nat->Prop)(p1 p2 p3:Int)(w:World)(hT:qai w)(hG0:GridAt w g G F):CP 111 [pX g,iX p1,iX p2,iX p3].toArray w fun e w'=>
 ∃ro n' rows' F' K',e= .returned (.slice (some ⟨ro,0,none⟩) n' n')/\LinesAt w' (some ⟨ro,0,none⟩) n' rows' K'/\rows'.map Row.l=G.lines.take (qg2 G p3).toNat/\GridAt w' g (qeb G p1 p2 p3) F'/\(∀b,F' b->more F w w' b)/\(∀b,K' b->more F w w' b)/\(∀b,F' b-> ¬K' b)/\Ch F w w':=by
 obtain⟨r,rc,d,hG⟩:=hG0;have hG0:GridAt w g G F:=⟨r,rc,d,hG⟩
 obtain⟨⟨bC,bD⟩,⟨bE,bF⟩,bG,bH⟩:=hG.ok;have aA:=hG.len;have aB:Df r g:=hG.gr;have aC:=hG.hi _ hG.inF.1;have bI:=hG.hi _ hG.inF.2.1;have aD:1<=qj p1/\qj p1<=60:=by unfold qj;omega
 have aE:1<=qj p2/\qj p2<=60:=by unfold qj;omega
 have bJ:=hG.body.2.1;have bK:=qoB hG0;refine yA Tryz.func111 rfl<|yx 1<|ysr<|yq 1<|yo (yQ (qeC p1 _) fun bL M=>?_);have aF:=zu (zm w) M iZ;have aG:=hG.head.ch M id;have aH:=hG.body.ch M (fun b e=>by cases e;exact id);have aI:=qi M hT id id;refine yq 3<|yo (yQ (qeC p2 _) fun m N=>?_);have T:=zu aF N iZ;have v:=aG.ch N id;have O:=aH.ch N (fun b e=>by cases e;exact id);have aJ:=qi N aI id id;refine yz 6<|ysr<|yp 8 [] (.l (v.c 1) .z)<|ye<|ysr<|yp 8 [] (.l (v.c 2) (.j (min ((max (p3:Int) 0):Int) G.h) (rc) (.j (min ((max (p3:Int) 0):Int) G.h) (((min ((max (p3:Int) 0):Int) G.h):Int).toNat) .z)))<|ye<|yx 1<|ys<|ysr<|yp 8 [] (.l (v.c 2) (.j (min ((max (p3:Int) 0):Int) G.h) (d.length) .z))<|ye<|qa<|qV [0,1,2,9,10,36,37,38] (f':=[(0,pX g),(1,iX (qj p1)),(2,iX (qj p2)),(9,.slice (some ⟨r,0,none⟩) ((min ((max (p3:Int) 0):Int) G.h):Int).toNat ((min ((max (p3:Int) 0):Int) G.h):Int).toNat),(10,nX),(36,.slice (some ⟨r,(if rc=((min ((max (p3:Int) 0):Int) G.h):Int).toNat then 0 else 0+((min ((max (p3:Int) 0):Int) G.h):Int).toNat*1),none⟩) (d.length-((min ((max (p3:Int) 0):Int) G.h):Int).toNat) (rc-((min ((max (p3:Int) 0):Int) G.h):Int).toNat)),(37,iX (((d.length-((min ((max (p3:Int) 0):Int) G.h):Int).toNat):Nat):Int)),(38,iX 0)])<|qw (σ:=Nat×Nat×Option Nat×Nat) (fun⟨j,k,o,oc⟩=>[(0,pX g),(1,iX (qj p1)),(2,iX (qj p2)),(9,.slice (some ⟨r,0,none⟩) ((min ((max (p3:Int) 0):Int) G.h):Int).toNat ((min ((max (p3:Int) 0):Int) G.h):Int).toNat),(10,.slice (o.map at0) k oc),(36,.slice (some ⟨r,(if rc=((min ((max (p3:Int) 0):Int) G.h):Int).toNat then 0 else 0+((min ((max (p3:Int) 0):Int) G.h):Int).toNat*1),none⟩) (d.length-((min ((max (p3:Int) 0):Int) G.h):Int).toNat) (rc-((min ((max (p3:Int) 0):Int) G.h):Int).toNat)),(37,iX (((d.length-((min ((max (p3:Int) 0):Int) G.h):Int).toNat):Nat):Int)),(38,iX (j:Int))]) (fun⟨j,k,o,oc⟩ u=>j<=d.length-(min (max (p3:Int) 0) G.h).toNat/\k=min j (qj p2).toNat/\Ch (fun _=>False) m u/\ ∃f,NewRows m u o k oc f (qj p1)/\f.map Row.l=qde G (max (qj p1) 0) (min (max (p3:Int) 0) G.h).toNat k) (fun⟨j,k,o,oc⟩=>d.length-(min (max (p3:Int) 0) G.h).toNat-j) (0,0,none,0) rfl ?_ ?_
 ·exact⟨ir _,(by omega),Ch.refl _ _,[],NewRows.nil _,rfl⟩
 intro p J aK bM ad;obtain⟨j,k,o,oc⟩:=p;obtain⟨hj,bN,y,f,hN,A⟩:=aK;have U:=zu T y iZ;have ae:=v.ch y id;have V:=O.ch y (fun b e=>by cases e;exact id);have aL:=qi y aJ id id;have af:w.heap.size<=m.heap.size:=zzs T;have W:m.heap.size<=J.heap.size:=zzs y;refine yx 1<|ys<|yc (rL (j:Int) (((d.length-((min ((max (p3:Int) 0):Int) G.h):Int).toNat):Nat):Int)) (fun aM=>?_) fun aM=>?_
 ·obtain⟨q,X⟩:∃q,d[(min (max (p3:Int) 0) G.h).toNat+(j:Int).toNat]? =some q:=⟨_,ig (show(min (max (p3:Int) 0) G.h).toNat+(j:Int).toNat<d.length by omega)⟩
  have K:q∈d:=jD X;have aN:=(hG.line q K).2;have bO:=hG.ok.2.2.2 _ (hG.lines▸jh K);have bP:=(hG.line q K).1.2.1;refine yk<|ys<|qa<|ysr<|yp 3 [] (.i (j:Int) ((d.length-((min ((max (p3:Int) 0):Int) G.h):Int).toNat)) (.l (o:=((if rc=((min ((max (p3:Int) 0):Int) G.h):Int).toNat then 0 else 0+((min ((max (p3:Int) 0):Int) G.h):Int).toNat*1)+((j:Int)).toNat*1)) (qoE V X (by omega)) .z))<|ye<|yx 4<|yc (rL (k:Int) (qj p2)) (fun aO=>?_) fun aO=>?_
  ·refine q7<|yq 3<|yo (yC (fit_any q.b q.n q.cap q.l (qj p1) _ aL ((hG.line q K).1.ch (Up.ch U) id).rd (ic (hG.line q K).1.lt (zzs U)) aN (by omega) (by omega) (by omega)) ?_);rintro _ bQ ⟨s,L,rfl,aP,ag,B⟩;refine⟨_,rfl,?_⟩;have aQ:J.heap.size<=s:=iq (zzs (Ch.refl (fun j=>o=some j) J)) ag;have bR:m.heap.size<=s:=iq (zzs y) ag;have bS:Df g s:=(show¬g=s by have:=ae.lt;omega)
   have bT:Df r s:=(show¬r=s by have:=V.lt;omega)
   have aR:=zu U B iZ;have ah:=zt y B eZ;have ai:=zt (Ch.refl (fun j=>o=some j) J) B eZ;have aS:=ae.ch B id;have aT:=V.ch B (fun b e=>by cases e;exact id);have aU:=hN.out.own.ch B iZ;refine yo (yB [.slice (some ⟨s,0,none⟩) (max (qj p1) 0).toNat L] 118 1 fun bU Y Z bV aV C=>?_);have bW:=zn Z aR;have bX:m.heap.size<=Y:=by rw[Z];exact zzs ah
   have bY:J.heap.size<=Y:=by rw[Z];exact zzs ai
   have aW:=zt ah C eZ;have aj:=zt ai C eZ;have aX:=aS.ch C id;have aY:=aT.ch C (fun b e=>by cases e;exact id);have ak:=aU.ch C iZ;have a0:=aP.ch C id;refine yo (qaE 118 1 24 o k oc (f.map Row.val) (some ⟨Y,0,none⟩) 1 1 [Row.val (Row.mk s (max (qj p1) 0).toNat L (qlM q.l (max (qj p1) 0)))] (some 51) (k+1) rfl ((f++[(Row.mk s (max (qj p1) 0).toNat L (qlM q.l (max (qj p1) 0)))]).map Row.val) (by rw[iI];rfl) (by kernel_rfl) ak (Rd.all aV) rfl rfl (fun h=>by cases h) (by constructor<;>first|omega|(simp only[maxLen];omega)) ?_);intro bZ aZ b0 b1 P b2 a1;obtain⟨Q,rfl⟩:∃b,aZ=some b:=b2 (by omega);have b3:¬o=some g:=fun e=>by have:=hN.lo _ e;have:=v.lt;omega
   have b4:¬o=some r:=fun e=>by have:=hN.lo _ e;have:=O.lt;omega
   have al:¬o=some s:=qaP ak a0;have c0:Df g Q:=qbs P (fun e=>b3 e) aX.lt;have c1:Df r Q:=qbs P (fun e=>b4 e) aY.lt;have c2:Df s Q:=qbs P (fun e=>al e) a0.lt;have b5:=zt aW a1 (fun i hi h=>by have:=hN.lo _ h;omega);have b6:=zt aj a1 iZ;have b7:=a0.ch a1 al;refine yq 7<|yE (nB (nS ?_));refine q7<|yp 2 [] (.q6 ((j:Int)+1) .z) ?_;have a2:=qeF (x:=(Row.mk s (max (qj p1) 0).toNat L (qlM q.l (max (qj p1) 0)))) hN (by omega) W b6 (fun b h=> .inr h) b7 aQ (by rw[qip (by omega)]<;>omega) (by rw[qip (by omega)]<;>omega) b1 (P.imp id fun⟨b,e,h⟩=>⟨b,e,iq (zzs aj) h⟩);have a3:(f++[(Row.mk s (max (qj p1) 0).toNat L (qlM q.l (max (qj p1) 0)))]).map Row.l=qde G (max (qj p1) 0) (min (max (p3:Int) 0) G.h).toNat (k+1):=by rw[iI,A,show k=(j:Int).toNat by omega,qoD hG X];rfl
   refine yE (fun a ha=>ad (j+1,k+1,some Q,b0) _ ⟨by omega,by omega,b5,_,a2,a3⟩ (by show d.length-(min (max (p3:Int) 0) G.h).toNat-(j+1)<d.length-(min (max (p3:Int) 0) G.h).toNat-j;omega) a (ha.kp [0,1,2,9,10,36,37,38]))
  refine qo (nB (nS ?_));refine q7<|yp 2 [] (.q6 ((j:Int)+1) .z)<|yE (fun a ha=>ad (j+1,k,o,oc) _ ⟨by omega,by omega,y,_,hN.ch (zr _) eZ (by omega),A⟩ (by show d.length-(min (max (p3:Int) 0) G.h).toNat-(j+1)<d.length-(min (max (p3:Int) 0) G.h).toNat-j;omega) a (ha.kp [0,1,2,9,10,36,37,38]))
 have c3:j=d.length-(min (max (p3:Int) 0) G.h).toNat:=by omega
 refine qm (eS (qd (qb (nS ?_))));refine ys<|qa<|qV [0,1,2,9,10] (f':=[(0,pX g),(1,iX (qj p1)),(2,iX (qj p2)),(9,.slice (some ⟨r,0,none⟩) ((min ((max (p3:Int) 0):Int) G.h):Int).toNat ((min ((max (p3:Int) 0):Int) G.h):Int).toNat),(10,.slice (o.map at0) k oc)])<|qw (σ:=Nat×Option Nat×Nat) (fun⟨k,o,oc⟩=>[(0,pX g),(1,iX (qj p1)),(2,iX (qj p2)),(9,.slice (some ⟨r,0,none⟩) ((min ((max (p3:Int) 0):Int) G.h):Int).toNat ((min ((max (p3:Int) 0):Int) G.h):Int).toNat),(10,.slice (o.map at0) k oc)]) (fun⟨k,o,oc⟩ u=>(min (d.length-(min (max (p3:Int) 0) G.h).toNat) (qj p2).toNat)<=k/\k<=(qj p2).toNat/\Ch (fun _=>False) m u/\ ∃f,NewRows m u o k oc f (qj p1)/\f.map Row.l=qde G (max (qj p1) 0) (min (max (p3:Int) 0) G.h).toNat (min (d.length-(min (max (p3:Int) 0) G.h).toNat) (qj p2).toNat)++List.replicate (k-(min (d.length-(min (max (p3:Int) 0) G.h).toNat) (qj p2).toNat)) (List.replicate (qj p1).toNat (qB qdd))) (fun⟨k,o,oc⟩=>(qj p2).toNat-k) (k,o,oc) rfl ?_ ?_
 ·exact⟨by omega,by omega,y,f,hN,by rw[A,show k=(min (d.length-(min (max (p3:Int) 0) G.h).toNat) (qj p2).toNat) by omega,Nat.sub_self];simp⟩
 intro p D b8 c4 b9;obtain⟨k,o,oc⟩:=p;obtain⟨c5,c6,E,f,hN,A⟩:=b8;have am:=zu T E iZ;have a4:=v.ch E id;have an:=O.ch E (fun b e=>by cases e;exact id);have af:w.heap.size<=m.heap.size:=af;have W:m.heap.size<=D.heap.size:=zzs E;refine ys<|yx 4<|yc (rL (k:Int) (qj p2)) (fun ba=>?_) fun ba=>?_
 ·refine yk<|qa<|q7<|yq 3<|yo (yC (qcL (qj p1) qdd _ (by omega) (by omega)) ?_);rintro _ c7 ⟨t,rfl,bb,ao,H⟩;refine⟨_,rfl,?_⟩;have bc:D.heap.size<=t:=iq (zzs (Ch.refl (fun j=>o=some j) D)) ao;have c8:m.heap.size<=t:=iq (zzs E) ao;have c9:Df g t:=(show¬g=t by have:=a4.lt;omega)
  have ca:Df r t:=(show¬r=t by have:=an.lt;omega)
  have bd:=zu am H iZ;have ap:=zt E H eZ;have aq:=zt (Ch.refl (fun j=>o=some j) D) H eZ;have bf:=a4.ch H id;have bg:=an.ch H (fun b e=>by cases e;exact id);have bh:=hN.out.own.ch H iZ;refine yo (yB [.slice (some ⟨t,0,none⟩) ((qj p1):Int).toNat ((qj p1):Int).toNat] 118 1 fun cb a5 a6 cc bi I=>?_);have cd:=zn a6 bd;have ce:m.heap.size<=a5:=by rw[a6];exact zzs ap
  have cf:D.heap.size<=a5:=by rw[a6];exact zzs aq
  have bj:=zt ap I eZ;have ar:=zt aq I eZ;have bk:=bf.ch I id;have bl:=bg.ch I (fun b e=>by cases e;exact id);have au:=bh.ch I iZ;have a7:=bb.ch I id;refine yo (qaE 118 1 24 o k oc (f.map Row.val) (some ⟨a5,0,none⟩) 1 1 [Row.val (Row.mk t ((qj p1):Int).toNat ((qj p1):Int).toNat (List.replicate ((qj p1):Int).toNat (qB qdd)))] (some 62) (k+1) rfl ((f++[(Row.mk t ((qj p1):Int).toNat ((qj p1):Int).toNat (List.replicate ((qj p1):Int).toNat (qB qdd)))]).map Row.val) (by rw[iI];rfl) (by kernel_rfl) au (Rd.all bi) rfl rfl (fun h=>by cases h) (by constructor<;>first|omega|(simp only[maxLen];omega)) ?_);intro cg bm bn bo R bp a8;obtain⟨S,rfl⟩:∃b,bm=some b:=bp (by omega);have bq:¬o=some g:=fun e=>by have:=hN.lo _ e;have:=v.lt;omega
  have br:¬o=some r:=fun e=>by have:=hN.lo _ e;have:=O.lt;omega
  have av:¬o=some t:=qaP au a7;have ci:Df g S:=qbs R (fun e=>bq e) bk.lt;have cj:Df r S:=qbs R (fun e=>br e) bl.lt;have ck:Df t S:=qbs R (fun e=>av e) a7.lt;have bs:=zt bj a8 (fun i hi h=>by have:=hN.lo _ h;omega);have bt:=zt ar a8 iZ;have bu:=a7.ch a8 av;refine yq 7 ?_;have a2:=qeF (x:=(Row.mk t ((qj p1):Int).toNat ((qj p1):Int).toNat (List.replicate ((qj p1):Int).toNat (qB qdd)))) hN (by omega) W bt (fun b h=> .inr h) bu bc (by rw[iu]) (by rw[iu]) bo (R.imp id fun⟨b,e,h⟩=>⟨b,e,iq (zzs ar) h⟩);have a3:(f++[(Row.mk t ((qj p1):Int).toNat ((qj p1):Int).toNat (List.replicate ((qj p1):Int).toNat (qB qdd)))]).map Row.l=qde G (max (qj p1) 0) (min (max (p3:Int) 0) G.h).toNat (min (d.length-(min (max (p3:Int) 0) G.h).toNat) (qj p2).toNat)++List.replicate (k+1-(min (d.length-(min (max (p3:Int) 0) G.h).toNat) (qj p2).toNat)) (List.replicate (qj p1).toNat (qB qdd)):=by rw[iI,A,ie,show k+1-(min (d.length-(min (max (p3:Int) 0) G.h).toNat) (qj p2).toNat)=(k-(min (d.length-(min (max (p3:Int) 0) G.h).toNat) (qj p2).toNat))+1 by omega,jL];rfl
  refine yE (nB (fun a ha=>b9 (k+1,some S,bn) _ ⟨by omega,by omega,bs,_,a2,a3⟩ (by show(qj p2).toNat-(k+1)<(qj p2).toNat-k;omega) a (ha.kp [0,1,2,9,10])))
 have aw:k=(qj p2).toNat:=by omega
 refine qm (eS (qd (qb (nS ?_))));refine ysr<|yq 8<|yo (yT [iX (qj p1),iX G.h,.slice (some ⟨r,0,none⟩) d.length rc] a4 fun cl bv a9=>?_);have cm:=hN.out.own.ch a9 (fun b e (h:b=g)=>by have:=hN.lo _ e;have:=v.lt;omega);refine yq 11<|yo (yT [iX (qj p1),iX (qj p2),.slice (some ⟨r,0,none⟩) d.length rc] bv fun cn bw ax=>?_);refine yq 14<|yo (yT [iX (qj p1),iX (qj p2),.slice (o.map at0) k oc] bw fun aa bx ay=>?_);refine ye<|yx 2<|q9 (yR1 (.slice (some ⟨r,0,none⟩) ((min ((max (p3:Int) 0):Int) G.h):Int).toNat ((min ((max (p3:Int) 0):Int) G.h):Int).toNat) ?_);have ab:Ch (· =g) w aa:=zt (zt (zt ((Up.ch am).mono eZ) a9 iZ) ax iZ) ay iZ;have bz:Ch (· =g) D aa:=zt (zt a9 ax iZ) ay iZ;have bA:=v.lt;obtain⟨r',rfl⟩:=hN.some (by omega);have bB:=hN.ch bz (fun b hb (e:b=g)=>by omega) (by omega);have az:=bB.grid (F:=fun b=>b=g\/(m.heap.size<=b/\b<aa.heap.size)) bx bA aD aE aw (.inl rfl) (fun b h=> .inr h) (fun b h=>h.elim (fun e=>e▸⟨ic hG.head.lt ab.size,aC⟩) (fun h=>⟨h.2,by omega⟩));rw[A,aw,aA]at az;refine⟨r,(min (max (p3:Int) 0) G.h).toNat,d.take (min (max (p3:Int) 0) G.h).toNat,_,_,rfl,hG.first (min (max (p3:Int) 0) G.h).toNat (by omega) ab,?_,⟨r',oc,f,az⟩,?_,?_,?_,ab.mono (fun i _ h=>h▸hG.inF.1)⟩
 ·rw[k4,hG.lines];rfl
 ·rintro b (rfl|h)
  ·exact .inl hG.inF.1
  exact .inr ⟨by omega,h.2⟩
 ·rintro b (rfl|⟨x,hx,rfl⟩)
  ·exact .inl hG.inF.2.1
  exact .inl (hG.inF.2.2 x hx)
 rintro b (rfl|h) (h2|⟨x,hx,h2⟩)
 ·exact aB h2.symm
 ·exact(hG.gb x hx).1 h2
 ·have:=hG.body.lt;omega
 have:=hG.lt _ (hG.inF.2.2 x hx);omega
structure US where
  b0:Int
  b1:Int
  b2:Int
  n:Int
structure PS where
  state:Int
  utf:US
  marks:ByteArray
  params:List Int
  text:ByteArray
  within:Int
structure TS where
  grid:Gr
  other:Gr
  cursor:Cur
  saved:Cur
  away:Cur
  top:Int
  bot:Int
  tabs:Nat->Bool
  wrap:Bool
  origin:Bool
  insert:Bool
  hidden:Bool
  draw0:Bool
  draw1:Bool
  shift:Bool
  alt:Bool
  title:ByteArray
  back:List (List Cel)
  parser:PS
  reply:ByteArray
abbrev qar:TypeId:=96
def qhl (f:Nat->Bool):List Value:=(List.range 60).map fun i=> .bool (f i)
def TS.vals (t:TS)(g o:Nat)(bk ps:Value):List Value:=
  [.pointer (some ⟨g,0,none⟩),.pointer (some ⟨o,0,none⟩),
   .int .i64 t.cursor.x,.int .i64 t.cursor.y,.bool t.cursor.late,.bool t.cursor.sty.bold,.bool t.cursor.sty.under,.bool t.cursor.sty.turned,.int .i64 t.cursor.sty.fore,.int .i64 t.cursor.sty.back,
   .int .i64 t.saved.x,.int .i64 t.saved.y,.bool t.saved.late,.bool t.saved.sty.bold,.bool t.saved.sty.under,.bool t.saved.sty.turned,.int .i64 t.saved.sty.fore,.int .i64 t.saved.sty.back,
   .int .i64 t.away.x,.int .i64 t.away.y,.bool t.away.late,.bool t.away.sty.bold,.bool t.away.sty.under,.bool t.away.sty.turned,.int .i64 t.away.sty.fore,.int .i64 t.away.sty.back,
   .int .i64 t.top,.int .i64 t.bot]++qhl t.tabs++
  [.bool t.wrap,.bool t.origin,.bool t.insert,.bool t.hidden,.bool t.draw0,.bool t.draw1,.bool t.shift,.bool t.alt,.string t.title,bk,
   .int .i64 t.parser.state,.int .u8 t.parser.utf.b0,.int .u8 t.parser.utf.b1,.int .u8 t.parser.utf.b2,.int .i64 t.parser.utf.n,.string t.parser.marks,ps,.string t.parser.text,.int .i64 t.parser.within,.string t.reply]
theorem qch (t:TS)(g o:Nat)(bk ps:Value):(t.vals g o bk ps).length=108:=by kernel_rfl
theorem qg4 (t:TS)(g o:Nat)(bk ps:Value)(x:Nat)(hx:x<60)(v:Bool):put (t.vals g o bk ps) (28+x*1) [.bool v]=({t with tabs:=fun i=>if i=x then v else t.tabs i}:TS).vals g o bk ps:=by
  have j:∀f:Nat->Bool,(qhl f).length=60:=fun f=>by simp[qhl]
  have e:∀(a b c vs:List Value) (o:Nat),a.length+o<(a++b).length->vs.length=1->put (a++b++c) (a.length+o) vs=a++(put b o vs)++c:=fun a b c vs o h hv=>by
    simp only[hJ]at h;unfold put;rw[ie a b c,List.take_append,List.drop_append];simp only[Nat.add_sub_cancel_left,ie];rw[je (by omega),jF (by omega),jP (by omega),show a.length+o+vs.length-a.length=o+vs.length by omega,jQ (by omega)];simp
  have k:put (qhl t.tabs) x [.bool v]=qhl (fun i=>if i=x then v else t.tabs i):=by
    unfold put qhl;apply List.ext_getElem?;intro i;rw[ie,List.getElem?_append];simp only[im,hZ,List.length_range,iz,iP,j5,iM];rw[jK (by omega)];by_cases hi:i<x
    · simp[hi,show i≠x by omega,show i<60 by omega]
    · rw[if_neg hi]
      by_cases he:i=x
      · subst he
        simp[hx]
      · rw[iF (by simp;omega)]
        simp only[iz,iP,jg,iM];rw[show x+1+(i-x-1)=i by omega];by_cases d:i<60
        · simp[d,he]
        · simp[d]
  rw[iN];unfold TS.vals;rw[show 28+x=(List.length (α:=Value) [.pointer (some ⟨g,0,none⟩),.pointer (some ⟨o,0,none⟩),
   .int .i64 t.cursor.x,.int .i64 t.cursor.y,.bool t.cursor.late,.bool t.cursor.sty.bold,.bool t.cursor.sty.under,.bool t.cursor.sty.turned,.int .i64 t.cursor.sty.fore,.int .i64 t.cursor.sty.back,
   .int .i64 t.saved.x,.int .i64 t.saved.y,.bool t.saved.late,.bool t.saved.sty.bold,.bool t.saved.sty.under,.bool t.saved.sty.turned,.int .i64 t.saved.sty.fore,.int .i64 t.saved.sty.back,
   .int .i64 t.away.x,.int .i64 t.away.y,.bool t.away.late,.bool t.away.sty.bold,.bool t.away.sty.under,.bool t.away.sty.turned,.int .i64 t.away.sty.fore,.int .i64 t.away.sty.back,
   .int .i64 t.top,.int .i64 t.bot])+x from rfl,e _ _ _ _ _ (by rw[hJ,j];simp only[iz,iP];omega) rfl,k]
structure TermIn (w:World)(t g o:Nat)(ba:Option Addr)(bn bc:Nat)(pa:Option Addr)(pn pc:Nat)(T:TS)(F F1 F2 FB FP:Nat->Prop):Prop where
  blk:Blk w t (T.vals g o (.slice ba bn bc) (.slice pa pn pc)) qar
  g1:GridAt w g T.grid F1
  g2:GridAt w o T.other F2
  bk:∃rows,LinesAt w ba bn rows FB/\rows.map Row.l=T.back
  bcap:bn<=bc/\(ba=none->bc=0)
  ps:Rd w pa (T.parser.params.map (Value.int .i64))/\T.parser.params.length=pn/\(pa=none->pc=0)/\ ∀ad,pa=some ad->FP ad.block
  pz:∃po:Option Nat,pa=po.map at0
  bz:ba=none\/ ∃b off,ba=some ⟨b,off,none⟩
  t1:¬F1 t
  t2:¬F2 t
  tB:¬FB t
  tP:¬FP t
  a12:∀b,F1 b-> ¬F2 b
  a1B:∀b,F1 b-> ¬FB b
  a2B:∀b,F2 b-> ¬FB b
  a1P:∀b,F1 b-> ¬FP b
  a2P:∀b,F2 b-> ¬FP b
  inF:F t/\(∀b,F1 b->F b)/\(∀b,F2 b->F b)/\(∀b,FB b->F b)/\(∀b,FP b->F b)
  lt:∀b,F b->b<w.heap.size
  hi:∀b,F b->gTop<=b
def TermAt (w:World)(t:Nat)(T:TS)(F:Nat->Prop):Prop:= ∃g o ba bn bc pa pn pc F1 F2 FB FP,TermIn w t g o ba bn bc pa pn pc T F F1 F2 FB FP
section
variable {w w':World}{t g o:Nat}{ba:Option Addr}{bn bc:Nat}{pa:Option Addr}{pn pc:Nat}{T T':TS}{F F1 F2 FB FP:Nat->Prop}
theorem TermIn.scalar (h:TermIn w t g o ba bn bc pa pn pc T F F1 F2 FB FP)(hc:Ch (fun j=>j=t) w w')(hb:Blk w' t (T'.vals g o (.slice ba bn bc) (.slice pa pn pc)) qar)
    (hg:T'.grid=T.grid) (ho:T'.other=T.other) (hk:T'.back=T.back) (hp:T'.parser.params=T.parser.params):TermIn w' t g o ba bn bc pa pn pc T' F F1 F2 FB FP:=by
  obtain⟨a,hL,hl⟩:=h.bk;exact{h with
    blk:=hb
    g1:=by rw[hg];exact h.g1.ch hc fun b hb e=>h.t1 (e▸hb)
    g2:=by rw[ho];exact h.g2.ch hc fun b hb e=>h.t2 (e▸hb)
    bk:=⟨a,hL.ch hc fun b hb e=>h.tB (e▸hb),by rw[hk];exact hl⟩
    ps:=by rw[hp];exact⟨h.ps.1.ch hc fun ad e c=>h.tP (c▸h.ps.2.2.2 ad e),h.ps.2⟩
    lt:=fun b hb=>ic (h.lt b hb) hc.size}
theorem TermIn.same (h:TermIn w t g o ba bn bc pa pn pc T F F1 F2 FB FP){B:Nat->Prop}(hc:Ch B w w')(hB:∀b,F b-> ¬B b):TermIn w' t g o ba bn bc pa pn pc T F F1 F2 FB FP:=by
  obtain⟨a,hL,hl⟩:=h.bk;exact{h with
    blk:=h.blk.ch hc (hB t h.inF.1)
    g1:=h.g1.ch hc fun b hb=>hB b (h.inF.2.1 b hb)
    g2:=h.g2.ch hc fun b hb=>hB b (h.inF.2.2.1 b hb)
    bk:=⟨a,hL.ch hc fun b hb=>hB b (h.inF.2.2.2.1 b hb),hl⟩
    ps:=⟨h.ps.1.ch hc fun ad e=>hB _ (h.inF.2.2.2.2 _ (h.ps.2.2.2 ad e)),h.ps.2⟩
    lt:=fun b hb=>ic (h.lt b hb) hc.size}
theorem TermAt.ch {B:Nat->Prop}(h:TermAt w t T F)(hc:Ch B w w')(hB:∀b,F b-> ¬B b):TermAt w' t T F:=by
  obtain⟨g,o,ba,bn,bc,pa,pn,pc,F1,F2,FB,FP,h⟩:=h;exact⟨g,o,ba,bn,bc,pa,pn,pc,F1,F2,FB,FP,h.same hc hB⟩
theorem TermIn.mono {F':Nat->Prop}(h:TermIn w t g o ba bn bc pa pn pc T F F1 F2 FB FP)(hF:∀b,F b->F' b)(hl:∀b,F' b->b<w.heap.size/\gTop<=b):TermIn w t g o ba bn bc pa pn pc T F' F1 F2 FB FP:=
  {h with
    inF:=⟨hF _ h.inF.1,fun b hb=>hF b (h.inF.2.1 b hb),fun b hb=>hF b (h.inF.2.2.1 b hb),fun b hb=>hF b (h.inF.2.2.2.1 b hb),fun b hb=>hF b (h.inF.2.2.2.2 b hb)⟩
    lt:=fun b hb=>(hl b hb).1
    hi:=fun b hb=>(hl b hb).2}
end
def Sty.vals (s:Sty):List Value:=[.bool s.bold,.bool s.under,.bool s.turned,.int .i64 s.fore,.int .i64 s.back]
def qq (s:Sty)(n:Int):Sty:=
 if n=0 then qdd else if n=1\/n=22 then{s with bold:=n==1}else if n=4\/n=24 then{s with under:=n==4}else if n=7\/n=27 then{s with turned:=n==7}
 else if 30<=n/\n<=37 then{s with fore:=n-29}else if n=39 then{s with fore:=0}else if 40<=n/\n<=47 then{s with back:=n-39}else if n=49 then{s with back:=0}else s
def qcu (s:Sty)(l:List Int):Sty:=(if l=[]then[0]else l).foldl qq s
def qe4 (T:TS)(x y:Int):TS:={T with cursor:=⟨min (max x 0) (T.grid.w-1),min (max y 0) (T.grid.h-1),false,T.cursor.sty⟩}
def qr (l:List Int)(i:Nat):Int:=if l.length<=i then 1 else max (l.getD i 0) 1
def qaU (l:List Int):Int:=if l=[]then 0 else l.getD 0 0
def qeG (T:TS)(x y:Int):TS:=if T.origin=true then qe4 T (x-1) (min (T.top+y-1) (T.bot-1))else qe4 T (x-1) (y-1)
theorem qlN (rows:List Row):((rows.map Row.val).all fun c=>c.oneCell')=true:=by
 refine j3.2 fun v hv=>?_;obtain⟨x,_,rfl⟩:=j7.1 hv;rfl
theorem GridAt.head {w:World}{g:Nat}{G:Gr}{F:Nat->Prop}(h:GridAt w g G F):∃v,Blk w g [.int .i64 G.w,.int .i64 G.h,v] qgo:=by
 obtain⟨r,a,b,h⟩:=h;exact⟨_,h.head⟩
theorem qiq {w:World}{t g o:Nat}{ba:Option Addr}{bn bc:Nat}{pa:Option Addr}{pn pc:Nat}{T:TS}{F F1 F2 FB FP:Nat->Prop}(hI:TermIn w t g o ba bn bc pa pn pc T F F1 F2 FB FP)(x y:Int):CP 164 [pX t,iX x,iX y].toArray w fun e w'=>e= .returned (.tuple #[])/\TermIn w' t g o ba bn bc pa pn pc (qe4 T x y) F F1 F2 FB FP/\Ch (· =t) w w':=by
 have a:=hI.g1.head;obtain⟨gv,a⟩:=a;obtain⟨⟨B,C⟩,⟨D,E⟩,G,H⟩:=hI.g1.ok;have I:Df t g:=fun e=>hI.t1 (e▸hI.g1.inF);refine yA Tryz.func164 rfl<|yD [28,32,36] fun J K b=>?_;have k:=zt (Ch.refl (· =t) w) b eZ;have d:=hI.blk.ch b id;have f:=a.ch b id;refine yd (uL 0 23) [] (.l (d.c 0) (.l (f.c 0) (.q6 (T.grid.w-1) (.l (d.c 0) (.l (f.c 1) .z)))))<|ydT (uL 23 5) [] rfl (fun _=>(.q6 (T.grid.h-1) .z))<|yK 28 (yS d fun L m n=>?_);have p:=zt k n (fun i hi (h:i=t)=>h);refine q8<|yd (uL 29 3) [] .z<|yK 32 (yS m fun M q r=>?_);have s:=zt p r (fun i hi (h:i=t)=>h);refine q8<|yd (uL 33 3) [] .z<|yK 36 (yS q fun N u v=>?_);have j:=zt s v (fun i hi (h:i=t)=>h);refine q8<|yDe (qW ?_);have A:=hI.scalar (T':=({T with cursor:=(Cur.mk (min ((max (x:Int) 0):Int) (T.grid.w-1)) (min ((max (y:Int) 0):Int) (T.grid.h-1)) false T.cursor.sty)}:TS)) j (Blk.to u (by kernel_rfl)) rfl rfl rfl rfl;exact⟨rfl,A,j⟩
theorem home_any {w:World}{t g o:Nat}{ba:Option Addr}{bn bc:Nat}{pa:Option Addr}{pn pc:Nat}{T:TS}{F F1 F2 FB FP:Nat->Prop}(hI:TermIn w t g o ba bn bc pa pn pc T F F1 F2 FB FP)(hb:(0<=T.top/\T.top<=60)/\0<=T.bot/\T.bot<=60)(x y:Int)(hx: -1000000<=x/\x<=1000000)(hy: -1000000<=y/\y<=1000000):CP 189 [pX t,iX x,iX y].toArray w fun e w'=>e= .returned (.tuple #[])/\TermIn w' t g o ba bn bc pa pn pc (qeG T x y) F F1 F2 FB FP/\Ch (· =t) w w':=by
 have d:=hI.g1.head;obtain⟨gv,d⟩:=d;obtain⟨⟨u,v⟩,⟨A,B⟩,C,D⟩:=hI.g1.ok;have E:Df t g:=fun e=>hI.t1 (e▸hI.g1.inF);refine yA Tryz.func189 rfl<|ys<|ysr<|yp 4 [] (.l (hI.blk.c 89) .z)<|ye<|yc (rY T.origin) (fun a=>?_) fun a=>?_
 ·refine ys<|yD [16] fun G H f=>?_;have h:=zt (Ch.refl (· =t) w) f eZ;have b:=hI.blk.ch f id;refine yd (uL 0 16) [] (.q6 (x-1) (.l (b.c 26) (.q6 (T.top+y) (.q6 ((T.top+y)-1) (.l (b.c 27) (.q6 (T.bot-1) .z)))))) ?_;have i:=hI.scalar (T':=T) h b rfl rfl rfl rfl;refine yK 16 (yQ (qiq i (x-1) (min (((T.top+y)-1):Int) (T.bot-1))) ?_);rintro j ⟨k,m⟩;have n:=zt h m iZ;refine q8<|yDe (nS ?_);refine q9 (rS (yR0 ?_));rw[show qeG T x y=_ from if_pos a];exact⟨rfl,k,(zt n (Ch.refl (· =t) j) iZ)⟩
 refine yk<|q7<|yp 5 [] (.q6 (x-1) (.q6 (y-1) .z))<|yo (yQ (qiq hI (x-1) (y-1)) ?_);rintro p ⟨q,r⟩;have s:=zt (Ch.refl (· =t) w) r iZ;refine yE (qW ?_);rw[show qeG T x y=_ from if_neg (by rw[a];decide)];exact⟨rfl,q,(zt s (Ch.refl (· =t) p) iZ)⟩
theorem qhz (s:Sty)(n:Int)(w:World):CP 199 [.agg #[.bool s.bold,.bool s.under,.bool s.turned,iX s.fore,iX s.back],iX n].toArray w (RQ (.agg (qq s n).vals.toArray) w):=by
 have h:=Sep.nil w;refine yA Tryz.func199 rfl<|ysr<|yo (zN [.bool s.bold,.bool s.under,.bool s.turned,iX s.fore,iX s.back] 84 h fun u r h=>?_);refine yo (zN [xF,xF,xF,iX 0,iX 0] 84 h fun u t h=>?_);refine ye<|ys<|qa<|yx 3<|yc (rE n 0) (fun g=>?_) fun g=>?_
 ·refine q7<|yq 1<|yo (zs h 0 fun u h=>?_);refine yE (nB (nS ?_));refine ysr<|yp 1 [] (.a (h.cs 0 0 5) .z)<|yo (zs h 1 fun u h=>?_);refine ye<|q9 (qfZ (.agg #[xF,xF,xF,iX 0,iX 0]) (.a (h.cs 1 0 5) .z) ?_);refine⟨congrArg Ending.returned ?_,h.ch⟩;unfold qq
  repeat (first|rw[if_pos (by omega)]|rw[if_neg (by omega)])
  rfl
 refine ysr<|yq 3<|yw [12] (rE n 1) (fun i=>?_) fun i=>?_
 ·refine yz 7<|yct<|q7<|yq 3<|yo (zs h 0 fun u h=>?_);refine yE (nB (nS ?_));refine ysr<|yp 1 [] (.a (h.cs 0 0 5) .z)<|yo (zs h 1 fun u h=>?_);refine ye<|q9 (qfZ (.agg #[.bool ((n:Int)==1),.bool s.under,.bool s.turned,iX s.fore,iX s.back]) (.a (h.cs 1 0 5) .z) ?_);refine⟨congrArg Ending.returned ?_,h.ch⟩;unfold qq
  repeat (first|rw[if_pos (by omega)]|rw[if_neg (by omega)])
  rfl
 refine yz 7<|yc (rE n 22) (fun j=>?_) fun j=>?_
 ·refine q7<|yq 3<|yo (zs h 0 fun u h=>?_);refine yE (nB (nS ?_));refine ysr<|yp 1 [] (.a (h.cs 0 0 5) .z)<|yo (zs h 1 fun u h=>?_);refine ye<|q9 (qfZ (.agg #[.bool ((n:Int)==1),.bool s.under,.bool s.turned,iX s.fore,iX s.back]) (.a (h.cs 1 0 5) .z) ?_);refine⟨congrArg Ending.returned ?_,h.ch⟩;unfold qq
  repeat (first|rw[if_pos (by omega)]|rw[if_neg (by omega)])
  rfl
 refine ysr<|yq 3<|yw [22] (rE n 4) (fun k=>?_) fun k=>?_
 ·refine yz 7<|yct<|q7<|yq 3<|yo (zs h 0 fun u h=>?_);refine yE (nB (nS ?_));refine ysr<|yp 1 [] (.a (h.cs 0 0 5) .z)<|yo (zs h 1 fun u h=>?_);refine ye<|q9 (qfZ (.agg #[.bool s.bold,.bool ((n:Int)==4),.bool s.turned,iX s.fore,iX s.back]) (.a (h.cs 1 0 5) .z) ?_);refine⟨congrArg Ending.returned ?_,h.ch⟩;unfold qq
  repeat (first|rw[if_pos (by omega)]|rw[if_neg (by omega)])
  rfl
 refine yz 7<|yc (rE n 24) (fun l=>?_) fun l=>?_
 ·refine q7<|yq 3<|yo (zs h 0 fun u h=>?_);refine yE (nB (nS ?_));refine ysr<|yp 1 [] (.a (h.cs 0 0 5) .z)<|yo (zs h 1 fun u h=>?_);refine ye<|q9 (qfZ (.agg #[.bool s.bold,.bool ((n:Int)==4),.bool s.turned,iX s.fore,iX s.back]) (.a (h.cs 1 0 5) .z) ?_);refine⟨congrArg Ending.returned ?_,h.ch⟩;unfold qq
  repeat (first|rw[if_pos (by omega)]|rw[if_neg (by omega)])
  rfl
 refine ysr<|yq 3<|yw [32] (rE n 7) (fun m=>?_) fun m=>?_
 ·refine yz 7<|yct<|q7<|yq 3<|yo (zs h 0 fun u h=>?_);refine yE (nB (nS ?_));refine ysr<|yp 1 [] (.a (h.cs 0 0 5) .z)<|yo (zs h 1 fun u h=>?_);refine ye<|q9 (qfZ (.agg #[.bool s.bold,.bool s.under,.bool ((n:Int)==7),iX s.fore,iX s.back]) (.a (h.cs 1 0 5) .z) ?_);refine⟨congrArg Ending.returned ?_,h.ch⟩;unfold qq
  repeat (first|rw[if_pos (by omega)]|rw[if_neg (by omega)])
  rfl
 refine yz 7<|yc (rE n 27) (fun o=>?_) fun o=>?_
 ·refine q7<|yq 3<|yo (zs h 0 fun u h=>?_);refine yE (nB (nS ?_));refine ysr<|yp 1 [] (.a (h.cs 0 0 5) .z)<|yo (zs h 1 fun u h=>?_);refine ye<|q9 (qfZ (.agg #[.bool s.bold,.bool s.under,.bool ((n:Int)==7),iX s.fore,iX s.back]) (.a (h.cs 1 0 5) .z) ?_);refine⟨congrArg Ending.returned ?_,h.ch⟩;unfold qq
  repeat (first|rw[if_pos (by omega)]|rw[if_neg (by omega)])
  rfl
 refine ysr<|yq 3<|yw [42] (rM 30 n) (fun p=>?_) fun p=>?_
 ·refine yz 7<|yc (rM n 37) (fun b=>?_) fun b=>?_
  ·refine q7<|yp 3 [] (.q6 (n-29) .z)<|yo (zs h 0 fun u h=>?_);refine yE (nB (nS ?_));refine ysr<|yp 1 [] (.a (h.cs 0 0 5) .z)<|yo (zs h 1 fun u h=>?_);refine ye<|q9 (qfZ (.agg #[.bool s.bold,.bool s.under,.bool s.turned,iX (n-29),iX s.back]) (.a (h.cs 1 0 5) .z) ?_);refine⟨congrArg Ending.returned ?_,h.ch⟩;unfold qq
   repeat (first|rw[if_pos (by omega)]|rw[if_neg (by omega)])
   rfl
  refine yx 3<|yc (rE n 39) (fun c=>?_) fun c=>?_
  ·refine q7<|yq 1<|yo (zs h 0 fun u h=>?_);refine yE (nB (nS ?_));refine ysr<|yp 1 [] (.a (h.cs 0 0 5) .z)<|yo (zs h 1 fun u h=>?_);refine ye<|q9 (qfZ (.agg #[.bool s.bold,.bool s.under,.bool s.turned,iX 0,iX s.back]) (.a (h.cs 1 0 5) .z) ?_);refine⟨congrArg Ending.returned ?_,h.ch⟩;unfold qq
   repeat (first|rw[if_pos (by omega)]|rw[if_neg (by omega)])
   rfl
  refine ysr<|yq 3<|yw [56] (rM 40 n) (fun d=>?_) fun d=>?_
  ·refine yz 7<|yc (rM n 47) (fun f=>?_) fun f=>?_
   ·refine q7<|yp 3 [] (.q6 (n-39) .z)<|yo (zs h 0 fun u h=>?_);refine yE (nB (nS ?_));refine ysr<|yp 1 [] (.a (h.cs 0 0 5) .z)<|yo (zs h 1 fun u h=>?_);refine ye<|q9 (qfZ (.agg #[.bool s.bold,.bool s.under,.bool s.turned,iX s.fore,iX (n-39)]) (.a (h.cs 1 0 5) .z) ?_);refine⟨congrArg Ending.returned ?_,h.ch⟩;unfold qq
    repeat (first|rw[if_pos (by omega)]|rw[if_neg (by omega)])
    rfl
   refine yx 3<|yc (rE n 49) (fun q=>?_) fun q=>?_
   ·refine q7<|yq 1<|yo (zs h 0 fun u h=>?_);refine yE (nB (nS ?_));refine ysr<|yp 1 [] (.a (h.cs 0 0 5) .z)<|yo (zs h 1 fun u h=>?_);refine ye<|q9 (qfZ (.agg #[.bool s.bold,.bool s.under,.bool s.turned,iX s.fore,iX 0]) (.a (h.cs 1 0 5) .z) ?_);refine⟨congrArg Ending.returned ?_,h.ch⟩;unfold qq
    repeat (first|rw[if_pos (by omega)]|rw[if_neg (by omega)])
    rfl
   refine qo (nB (nS ?_));refine ysr<|yp 1 [] (.a (h.cs 0 0 5) .z)<|yo (zs h 1 fun u h=>?_);refine ye<|q9 (qfZ (.agg #[.bool s.bold,.bool s.under,.bool s.turned,iX s.fore,iX s.back]) (.a (h.cs 1 0 5) .z) ?_);refine⟨congrArg Ending.returned ?_,h.ch⟩;unfold qq
   repeat (first|rw[if_pos (by omega)]|rw[if_neg (by omega)])
   rfl
  refine yz 7<|ycf<|yx 3<|yc (rE n 49) (fun f=>?_) fun f=>?_
  ·exfalso;omega
  refine qo (nB (nS ?_));refine ysr<|yp 1 [] (.a (h.cs 0 0 5) .z)<|yo (zs h 1 fun u h=>?_);refine ye<|q9 (qfZ (.agg #[.bool s.bold,.bool s.under,.bool s.turned,iX s.fore,iX s.back]) (.a (h.cs 1 0 5) .z) ?_);refine⟨congrArg Ending.returned ?_,h.ch⟩;unfold qq
  repeat (first|rw[if_pos (by omega)]|rw[if_neg (by omega)])
  rfl
 refine yz 7<|ycf<|yx 3<|yc (rE n 39) (fun b=>?_) fun b=>?_
 ·exfalso;omega
 refine ysr<|yq 3<|yw [56] (rM 40 n) (fun c=>?_) fun c=>?_
 ·exfalso;omega
 refine yz 7<|ycf<|yx 3<|yc (rE n 49) (fun d=>?_) fun d=>?_
 ·exfalso;omega
 refine qo (nB (nS ?_));refine ysr<|yp 1 [] (.a (h.cs 0 0 5) .z)<|yo (zs h 1 fun u h=>?_);refine ye<|q9 (qfZ (.agg #[.bool s.bold,.bool s.under,.bool s.turned,iX s.fore,iX s.back]) (.a (h.cs 1 0 5) .z) ?_);refine⟨congrArg Ending.returned ?_,h.ch⟩;unfold qq
 repeat (first|rw[if_pos (by omega)]|rw[if_neg (by omega)])
 rfl
theorem qjt (s:Sty)(l:List Int)(k:Nat)(h:k<l.length):qq ((l.take k).foldl qq s) (l.getD k 0)=(l.take (k+1)).foldl qq s:=by
 rw[j4 h,List.foldl_append];simp[List.getD,ig h]
theorem qci {w:World}{b:Nat}{l:List Int}(h:Rd w (some ⟨b,0,none⟩) (l.map (Value.int .i64)))(k:Nat)(hk:k<l.length):w.cell? ⟨b,0+(k:Int).toNat*1,none⟩=some (iX (l.getD k 0)):=by
 rw[il,iN];refine qcg h k _ ?_;rw[iM,ig hk];simp[List.getD,ig hk]
theorem qju (b n cap:Nat)(l:List Int)(s:Sty)(w:World)(hr:Rd w (some ⟨b,0,none⟩) (l.map (Value.int .i64)))(hb:b<w.heap.size)(hn:l.length=n)(h0:0<n)(h1:n<=1000):CP 190 [.agg #[.bool s.bold,.bool s.under,.bool s.turned,iX s.fore,iX s.back],.slice (some ⟨b,0,none⟩) n cap].toArray w (RQ (.agg (qcu s l).vals.toArray) w):=by
 refine yA Tryz.func190 rfl<|ysr<|yo (yN [.bool s.bold,.bool s.under,.bool s.turned,iX s.fore,iX s.back] 84 fun T c t U m p=>?_);have V:=zn t (zm w);have q:=zu (zm w) p iZ;have v:=Ch.rd p hr id;refine yo (yN [xF,xF,xF,iX 0,iX 0] 84 fun x d y W A g=>?_);have X:=zn y q;have B:=zu q g iZ;have C:=Ch.rd g v id;have D:=m.ch g id;refine ye<|ys<|yx 3<|yc (rE (n:Int) 0) (fun E=>?_) fun E=>?_
 ·exfalso;omega
 refine yk<|ys<|yx 3<|qa<|qV [2,4,11,12,13] (f':=[(2,pX c),(4,pX d),(11,.slice (some ⟨b,0,none⟩) n cap),(12,iX (n:Int)),(13,iX 0)])<|qw (σ:=Nat) (fun k=>[(2,pX c),(4,pX d),(11,.slice (some ⟨b,0,none⟩) n cap),(12,iX (n:Int)),(13,iX (k:Int))]) (fun k u=>k<=n/\Blk u c (Sty.vals ((l.take k).foldl qq s)) 84/\Ch (· =c) x u) (fun k=>n-k) 0 rfl ?_ ?_
 ·exact⟨ir _,D,Ch.refl _ _⟩
 intro k Y F Z G;obtain⟨a0,j,f⟩:=F;have H:=zu B f (fun i hi (h:i=c)=>by omega);have I:=Ch.rd f C (fun(h:b=c)=>by have:=(ic hb (zzs (zm w)));omega);have J:=A.ch f (fun(h:d=c)=>by have:=m.lt;omega);refine yx 1<|ys<|yc (rL (k:Int) (n:Int)) (fun K=>?_) fun K=>?_
 ·refine yk<|ys<|qa<|ysr<|yp 3 [] (.i (k:Int) (n) (.l (o:=(0+((k:Int)).toNat*1)) (qci I k (by omega)) .z))<|ye<|q7<|yp 2 [] (.a (j.cs 0 5) .z)<|yo (yQ (qhz ((l.take k).foldl qq s) (l.getD k 0) _) fun a1 r=>?_);have L:=zt f r eZ;have M:=j.ch r id;refine yo (yT [.bool (qq ((l.take k).foldl qq s) (l.getD k 0)).bold,.bool (qq ((l.take k).foldl qq s) (l.getD k 0)).under,.bool (qq ((l.take k).foldl qq s) (l.getD k 0)).turned,iX (qq ((l.take k).foldl qq s) (l.getD k 0)).fore,iX (qq ((l.take k).foldl qq s) (l.getD k 0)).back] M fun a2 N O=>?_);have P:=zt L O iZ;refine yE (nB (nS ?_));refine q7<|yp 2 [] (.q6 ((k:Int)+1) .z)<|yE (fun a ha=>G (k+1) _ ⟨by omega,(by rw[<-qjt s l k (by omega)];exact N),P⟩ (by show n-(k+1)<n-k;omega) a (ha.kp [2,4,11,12,13]))
 have a3:k=n:=by omega
 refine qm (eS (qd (qb (nS ?_))));refine ysr<|yp 1 [] (.a (j.cs 0 5) .z)<|yo (yT [.bool ((l.take k).foldl qq s).bold,.bool ((l.take k).foldl qq s).under,.bool ((l.take k).foldl qq s).turned,iX ((l.take k).foldl qq s).fore,iX ((l.take k).foldl qq s).back] J fun a4 Q R=>?_);have S:=zu H R (fun i hi (h:i=d)=>by omega);refine ye<|q9 (qfZ (.agg #[.bool ((l.take k).foldl qq s).bold,.bool ((l.take k).foldl qq s).under,.bool ((l.take k).foldl qq s).turned,iX ((l.take k).foldl qq s).fore,iX ((l.take k).foldl qq s).back]) (.a (Q.cs 0 5) .z) ?_);rw[je (by omega)]at*;refine⟨congrArg Ending.returned ?_,Up.ch S⟩;unfold qcu;rw[if_neg (by intro e;subst e;simp at hn;omega)];rfl
theorem qjv (a0:Option Addr)(cap:Nat)(s:Sty)(w:World):CP 190 [.agg #[.bool s.bold,.bool s.under,.bool s.turned,iX s.fore,iX s.back],.slice a0 0 cap].toArray w (RQ (.agg (qcu s []).vals.toArray) w):=by
 refine yA Tryz.func190 rfl<|ysr<|yo (yN [.bool s.bold,.bool s.under,.bool s.turned,iX s.fore,iX s.back] 84 fun W b v X m x=>?_);have Y:=zn v (zm w);have n:=zu (zm w) x iZ;refine yo (yN [xF,xF,xF,iX 0,iX 0] 84 fun Z c y a1 A p=>?_);have a2:=zn y n;have q:=zu n p iZ;have r:=m.ch p id;refine ye<|ys<|yx 3<|yct<|q7<|yo (e_bs [iX 0] 3 1 (some 10) (by kernel_rfl) ?_);intro B f C a3 D g;have a4:=zn C q;have E:=zu q g iZ;have F:=r.ch g id;have G:=A.ch g id;refine yz 2<|ys<|yx 3<|qa<|qV [2,4,11,12,13] (f':=[(2,pX b),(4,pX c),(11,.slice (some ⟨f,0,none⟩) 1 1),(12,iX 1),(13,iX 0)])<|qw (σ:=Nat) (fun k=>[(2,pX b),(4,pX c),(11,.slice (some ⟨f,0,none⟩) 1 1),(12,iX 1),(13,iX (k:Int))]) (fun k u=>k<=1/\Blk u b (Sty.vals ((([0]:List Int).take k).foldl qq s)) 84/\Ch (· =b) B u) (fun k=>1-k) 0 rfl ?_ ?_
 ·exact⟨ir _,F,Ch.refl _ _⟩
 intro k a5 H a6 I;obtain⟨a7,j,d⟩:=H;have J:=zu E d (fun i hi (h:i=b)=>by omega);have K:=G.ch d (fun(h:c=b)=>by have:=m.lt;omega);have L:=D.ch d (fun(h:f=b)=>by have:=r.lt;omega);refine yx 1<|ys<|yc (rL (k:Int) 1) (fun M=>?_) fun M=>?_
 ·refine yk<|ys<|qa<|ysr<|yp 3 [] (.i (k:Int) (1) (.l (o:=(0+((k:Int)).toNat*1)) (qci (l:=[0]) (Rd.all L) k (by simp only[iz,iP];omega)) .z))<|ye<|q7<|yp 2 [] (.a (j.cs 0 5) .z)<|yo (yQ (qhz ((([0]:List Int).take k).foldl qq s) (([0]:List Int).getD k 0) _) fun a8 t=>?_);have N:=zt d t eZ;have O:=j.ch t id;refine yo (yT [.bool (qq ((([0]:List Int).take k).foldl qq s) (([0]:List Int).getD k 0)).bold,.bool (qq ((([0]:List Int).take k).foldl qq s) (([0]:List Int).getD k 0)).under,.bool (qq ((([0]:List Int).take k).foldl qq s) (([0]:List Int).getD k 0)).turned,iX (qq ((([0]:List Int).take k).foldl qq s) (([0]:List Int).getD k 0)).fore,iX (qq ((([0]:List Int).take k).foldl qq s) (([0]:List Int).getD k 0)).back] O fun a9 P Q=>?_);have R:=zt N Q iZ;refine yE (nB (nS ?_));refine q7<|yp 2 [] (.q6 ((k:Int)+1) .z)<|yE (fun a ha=>I (k+1) _ ⟨by omega,(by rw[<-qjt s [0] k (by simp only[iz,iP];omega)];exact P),R⟩ (by show 1-(k+1)<1-k;omega) a (ha.kp [2,4,11,12,13]))
 have S:k=1:=by omega
 refine qm (eS (qd (qb (nS ?_))));refine ysr<|yp 1 [] (.a (j.cs 0 5) .z)<|yo (yT [.bool ((([0]:List Int).take k).foldl qq s).bold,.bool ((([0]:List Int).take k).foldl qq s).under,.bool ((([0]:List Int).take k).foldl qq s).turned,iX ((([0]:List Int).take k).foldl qq s).fore,iX ((([0]:List Int).take k).foldl qq s).back] K fun aa T U=>?_);have V:=zu J U (fun i hi (h:i=c)=>by omega);refine ye<|q9 (qfZ (.agg #[.bool ((([0]:List Int).take k).foldl qq s).bold,.bool ((([0]:List Int).take k).foldl qq s).under,.bool ((([0]:List Int).take k).foldl qq s).turned,iX ((([0]:List Int).take k).foldl qq s).fore,iX ((([0]:List Int).take k).foldl qq s).back]) (.a (T.cs 0 5) .z) ?_);subst S;exact⟨rfl,Up.ch V⟩
theorem qkO (ad:Addr)(n cap:Nat)(rows:List Row)(w:World)(hr:Rd w (some ad) (rows.map Row.val))(hn:rows.length=n)(hnb:n<=1000000):CP 134 [.slice (some ad) n cap].toArray w fun e w'=> ∃o cap',e= .returned (.slice (o.map at0) n cap')/\Own w' qbY 1 o n cap' (rows.map Row.val)/\(∀b,o=some b->w.heap.size<=b)/\Ch (fun _=>False) w w':=by
 refine yA Tryz.func134 rfl<|yx 1<|ys<|yx 2<|yc (rY ((some ad)).isNone) (fun c=>?_) fun c=>?_
 ·exact absurd c (by simp)
 refine yk<|ysr<|yo (e_bs0 118 (some 5) (by kernel_rfl) ?_);intro v d p x q f;have y:=zn p (zm w);have j:=zu (zm w) f iZ;have r:=hr.ch f iZ;refine yq 2 ?_;refine yo (qaE 118 1 24 (some d) 0 0 [] (some ad) n cap (rows.map Row.val) (some 7) n (iJ _) (rows.map Row.val) rfl (by kernel_rfl) (Own.blk q rfl (ir _)) r (by rw[hZ,hn,iN]) (by exact qlN _) (fun h=>by cases h) (by constructor<;>(first|omega|(simp only[maxLen];omega))) ?_);intro z s k t l A a;obtain⟨m,rfl⟩:∃g,s=some g:=by rcases l with h|⟨g,h,_⟩<;>exact⟨_,h⟩
 replace a:=qif a;have u:=zu j a (fun i hi (h:i=d)=>by omega);refine yz 4<|q9 (yR1 (.slice (some ⟨m,0,none⟩) n k) ?_);exact⟨some m,k,rfl,t,(fun b e=>by cases e;exact qlF l (by omega) (zzs j)),Up.ch u⟩
theorem qkP (w:World):CP 134 [nX].toArray w fun e w'=> ∃o cap',e= .returned (.slice (o.map at0) 0 cap')/\Own w' qbY 1 o 0 cap' (([]:List Row).map Row.val)/\(∀b,o=some b->w.heap.size<=b)/\Ch (fun _=>False) w w':=by
 refine yA Tryz.func134 rfl<|yx 1<|ys<|yx 2<|yct<|yx 1<|q9 (rS (yR1 (nX) ?_));exact⟨none,0,rfl,Own.nil _ _ _,(fun b e=>by cases e),Up.ch (zm w)⟩
theorem qn0 {a:Option Addr}{n cap:Nat}{rows:List Row}{K:Nat->Prop}(w:World)(h:LinesAt w a n rows K)(hc:a=none->cap=0)(hnb:n<=1000000):CP 134 [.slice a n cap].toArray w fun e w'=> ∃o cap',e= .returned (.slice (o.map at0) n cap')/\Own w' qbY 1 o n cap' (rows.map Row.val)/\(∀b,o=some b->w.heap.size<=b)/\Ch (fun _=>False) w w':=by
 cases a with
 |some ad=>exact qkO ad n cap rows w h.rd h.len hnb
 |none=>
  have d:=h.rd.1 rfl;have f:rows=[]:=by simpa using d
  subst f;have c:=h.len;simp at c;subst c;rw[hc rfl];exact qkP w
def qhm (l m:List (List Cel)):List (List Cel):=(l++m).drop ((l++m).length-20)
theorem qn1 {w:World}{b n cap k:Nat}{rows:List Row}{K:Nat->Prop}(h:Own w qbY 1 (some b) n cap (rows.map Row.val))(hl:∀x∈rows,LineAt w x.b x.l x.cap/\x.l.length=x.n)(hK:∀x∈rows,K x.b)(hb:K b)
  (hlt:∀b,K b->b<w.heap.size/\gTop<=b) (hk:k<=n):LinesAt w (some ⟨b,if cap=k then 0 else 0+k*1,none⟩) (n-k) (rows.drop k) K:=by
 have hn:=h.1;rw[hZ,iN]at hn;refine⟨?_,by rw[iG,hn],fun x hx=>hl x (iW hx),fun x hx=>hK x (iW hx),(fun ad e=>by cases e;exact hb),fun b hb=>(hlt b hb).1,fun b hb=>(hlt b hb).2⟩;have:=qio (k:=k) (m:=n-k) h (iE _);rwa[je (by rw[iG,hZ];omega),<-List.map_drop]at this
theorem qjw {w:World}{o:Option Nat}{n cap:Nat}{rows:List Row}{K:Nat->Prop}(h:Own w qbY 1 o n cap (rows.map Row.val))(hl:∀x∈rows,LineAt w x.b x.l x.cap/\x.l.length=x.n)(hK:∀x∈rows,K x.b)(hb:∀b,o=some b->K b)
  (hlt:∀b,K b->b<w.heap.size/\gTop<=b):LinesAt w (o.map at0) n rows K:=by
 have hn:=h.1;rw[hZ,iN]at hn;refine⟨h.rd,hn,hl,hK,fun ad e=>?_,fun b hb=>(hlt b hb).1,fun b hb=>(hlt b hb).2⟩;cases o with
 |none=>cases e
 |some b=>cases e;exact hb b rfl
section
variable {w w':World}{t g o:Nat}{ba:Option Addr}{bn bc:Nat}{pa:Option Addr}{pn pc:Nat}{T:TS}{F F1 F2 FB FP:Nat->Prop}
theorem TermIn.newBack (h:TermIn w t g o ba bn bc pa pn pc T F F1 F2 FB FP)(hc:Ch (fun j=>j=t) w w'){B:List (List Cel)}{ba':Option Addr}{bn' bc':Nat}{K:Nat->Prop}{rows:List Row}
  (hb:Blk w' t (({T with back:=B}:TS).vals g o (.slice ba' bn' bc') (.slice pa pn pc)) qar) (hL:LinesAt w' ba' bn' rows (fun b=>FB b\/K b\/(w.heap.size<=b/\b<w'.heap.size))) (hB:rows.map Row.l=B) (hcap:bn'<=bc'/\(ba'=none->bc'=0)) (hz:ba'=none\/ ∃b off,ba'=some ⟨b,off,none⟩)
  (hK:∀b,K b->F b/\ ¬F1 b/\ ¬F2 b/\b≠t):TermIn w' t g o ba' bn' bc' pa pn pc ({T with back:=B}:TS) (more F w w') F1 F2 (fun b=>FB b\/K b\/(w.heap.size<=b/\b<w'.heap.size)) FP:=by
 have c:∀b,F1 b->b<w.heap.size:=h.g1.lt;have d:∀b,F2 b->b<w.heap.size:=h.g2.lt;have i:=h.blk.lt;exact
 {blk:=hb
  g1:=h.g1.ch hc fun b hb e=>h.t1 (e▸hb)
  g2:=h.g2.ch hc fun b hb e=>h.t2 (e▸hb)
  bk:=⟨rows,hL,hB⟩
  bcap:=hcap
  ps:=⟨h.ps.1.ch hc fun ad e f=>h.tP (f▸h.ps.2.2.2 ad e),h.ps.2⟩
  pz:=h.pz
  bz:=hz
  t1:=h.t1,t2:=h.t2
  tB:=fun hx=>hx.elim h.tB fun hx=>hx.elim (fun hx=>(hK t hx).2.2.2 rfl) fun hx=>by omega
  tP:=h.tP,a12:=h.a12
  a1B:=fun b a hx=>hx.elim (h.a1B b a) fun hx=>hx.elim (fun hx=>(hK b hx).2.1 a) fun hx=>by have:=c b a;omega
  a2B:=fun b a hx=>hx.elim (h.a2B b a) fun hx=>hx.elim (fun hx=>(hK b hx).2.2.1 a) fun hx=>by have:=d b a;omega
  a1P:=h.a1P,a2P:=h.a2P
  inF:=⟨.inl h.inF.1,fun b hb=> .inl (h.inF.2.1 b hb),fun b hb=> .inl (h.inF.2.2.1 b hb),fun b hb=>hb.elim (fun hb=> .inl (h.inF.2.2.2.1 b hb)) fun hb=>hb.elim (fun hb=> .inl (hK b hb).1) .inr,fun b hb=> .inl (h.inF.2.2.2.2 b hb)⟩
  lt:=fun b hb=>hb.elim (fun hb=>ic (h.lt b hb) hc.size) fun hb=>hb.2
  hi:=fun b hb=>hb.elim (h.hi b) fun hb=>by have:=h.hi t h.inF.1;omega}
end
theorem qlO {w:World}{t g o:Nat}{ba:Option Addr}{bn bc:Nat}{pa:Option Addr}{pn pc:Nat}{T:TS}{F F1 F2 FB FP:Nat->Prop}(hI:TermIn w t g o ba bn bc pa pn pc T F F1 F2 FB FP){la:Option Addr}{ln lc:Nat}{outs:List Row}{K:Nat->Prop}(hL:LinesAt w la ln outs K)(hlc:la=none->lc=0)(hK:∀b,K b->F b/\ ¬F1 b/\ ¬F2 b/\b≠t)(hbn:bn<=1000)(hln:ln<=1000):CP 112 [pX t,.slice la ln lc].toArray w fun e w'=>
 ∃ba' bn' bc',e= .returned (.tuple #[])/\TermIn w' t g o ba' bn' bc' pa pn pc ({T with back:=qhm T.back (outs.map Row.l)}:TS) (more F w w') F1 F2 (fun b=>FB b\/K b\/(w.heap.size<=b/\b<w'.heap.size)) FP/\Ch (· =t) w w':=by
 have J:=hI.g1.head;obtain⟨gv,J⟩:=J;obtain⟨⟨an,ao⟩,⟨ap,aq⟩,ar,au⟩:=hI.g1.ok;have av:Df t g:=fun e=>hI.t1 (e▸hI.g1.inF);obtain⟨f,a,L⟩:=hI.bk;refine yA Tryz.func112 rfl<|ysr<|yp 5 [] (.l (hI.blk.c 97) .z)<|yo (yC (qn0 _ (a.ch (Ch.refl (· =t) w) (fun b hb e=>hI.tB (e▸hb))) hI.bcap.2 (by omega)) ?_);rintro _ aw ⟨Y,Z,rfl,a0,u,M⟩;refine⟨_,rfl,?_⟩;have v:=zt (Ch.refl (· =t) w) M eZ;have a1:=hI.blk.ch M id;refine yq 7 ?_;have ax:=zzs v;refine yo (qaE 118 1 24 Y bn Z (f.map Row.val) la ln lc (outs.map Row.val) (some 11) (bn+ln) rfl ((f++outs).map Row.val) List.map_append.symm (by kernel_rfl) a0 (hL.ch v (fun b hb e=>(hK b hb).2.2.2 e)).rd (by rw[hZ,hL.len,iN]) (qlN _) hlc (by constructor<;>first|omega|(simp only[maxLen];omega)) ?_);intro ay y A p a2 az N;have O:=zt v N (fun i hi h=>by have:=u _ h;omega);have P:=a1.ch N (fun h=>by have:=u _ h;have:=hI.blk.lt;omega);have Q:∀b,y=some b->w.heap.size<=b:=fun b e=>by
  rcases a2 with h|⟨g',h,h'⟩
  ·exact u b (h▸e)
  rw[h]at e;have:=zi e;omega
 have q:∀b,y=some b-> ¬b=t:=fun b e h=>by have:=Q b e;have:=hI.blk.lt;omega
 rcases y with _|b2
 ·obtain⟨aA,aB⟩:=p.2.2.2.1 rfl;refine yq 10<|yo (yS P fun aC a4 R=>?_);have a5:=zt O R (fun i hi (h:i=t)=>h);have a6:=p.ch R (fun b e (h:b=t)=>q b e h);refine ye<|yD [15] fun aD aE B=>?_;have a7:=zt a5 B eZ;have a8:=a6.ch B iZ;have C:=a4.ch B id;refine yd (uL 0 15) [] (.l (C.c 97) (.l (C.c 97) (.q6 ((((bn+ln):Nat):Int)-20) (.j (max (((((bn+ln):Nat):Int)-20):Int) 0) ((bn+ln)) .z))))<|yK 15 (yS C fun m a9 S=>?_);have aa:=zt a7 S (fun i hi (h:i=t)=>h);have ab:=a8.ch S (fun b e (h:b=t)=>q b e h);refine q8<|yDe (qW ?_);have d:=aa;have D:∀x∈f++outs,LineAt m x.b x.l x.cap/\x.l.length=x.n:=fun x hx=>by
   rcases iD.1 hx with hx|hx
   ·exact⟨(a.line x hx).1.ch d (fun e=>hI.tB (e▸a.inK x hx)),(a.line x hx).2⟩
   exact⟨(hL.line x hx).1.ch d (fun e=>(hK _ (hL.inK x hx)).2.2.2 e),(hL.line x hx).2⟩
  have E:∀x∈f++outs,FB x.b\/K x.b\/(w.heap.size<=x.b/\x.b<m.heap.size):=fun x hx=>(iD.1 hx).elim (fun hx=> .inl (a.inK x hx)) (fun hx=> .inr (.inl (hL.inK x hx)));have G:∀b,(FB b\/K b\/(w.heap.size<=b/\b<m.heap.size))->b<m.heap.size/\gTop<=b:=fun b hb=>by
   have:=d.size;have h7:=hI.hi t hI.inF.1;have h8:=hI.blk.lt;rcases hb with hb|hb|hb
   ·have:=a.lt b hb;have:=a.hi b hb;omega
   ·have:=hL.lt b hb;have:=hL.hi b hb;omega
   omega
  have r:=qjw (o:=none) ab D E (fun b e=>by cases e) G;have U:f++outs=[]:=iy (by have:=r.len;omega);have ae:LinesAt m none ((bn+ln)-(max (((bn+ln:Nat):Int)-20) 0).toNat) ([]:List Row) (fun b=>FB b\/K b\/(w.heap.size<=b/\b<m.heap.size)):=by
   have e0:(bn+ln)-(max (((bn+ln:Nat):Int)-20) 0).toNat=bn+ln:=by omega
   rw[e0,<-U];exact r
  exact⟨_,_,_,rfl,hI.newBack d (Blk.to (cs':=(TS.vals ({T with back:=(qhm T.back (outs.map Row.l))}:TS) g o (.slice none ((bn+ln)-((max (((((bn+ln):Nat):Int)-20):Int) 0):Int).toNat) (A-((max (((((bn+ln):Nat):Int)-20):Int) 0):Int).toNat)) (.slice pa pn pc))) a9 (by kernel_rfl)) ae (by unfold qhm;rw[<-L,<-iI,U];rfl) ⟨by omega,fun _=>by omega⟩ (.inl rfl) hK,d⟩
 have aF:=p.2.1;refine yq 10<|yo (yS P fun aG ag V=>?_);have ah:=zt O V (fun i hi (h:i=t)=>h);have ai:=p.ch V (fun b e (h:b=t)=>q b e h);refine ye<|yD [15] fun aH aI H=>?_;have aj:=zt ah H eZ;have ak:=ai.ch H iZ;have I:=ag.ch H id;refine yd (uL 0 15) [] (.l (I.c 97) (.l (I.c 97) (.q6 ((((bn+ln):Nat):Int)-20) (.j (max (((((bn+ln):Nat):Int)-20):Int) 0) ((bn+ln)) .z))))<|yK 15 (yS I fun s al W=>?_);have am:=zt aj W (fun i hi (h:i=t)=>h);have X:=ak.ch W (fun b e (h:b=t)=>q b e h);refine q8<|yDe (qW ?_);have d:=am;have D:∀x∈f++outs,LineAt s x.b x.l x.cap/\x.l.length=x.n:=fun x hx=>by
  rcases iD.1 hx with hx|hx
  ·exact⟨(a.line x hx).1.ch d (fun e=>hI.tB (e▸a.inK x hx)),(a.line x hx).2⟩
  exact⟨(hL.line x hx).1.ch d (fun e=>(hK _ (hL.inK x hx)).2.2.2 e),(hL.line x hx).2⟩
 have E:∀x∈f++outs,FB x.b\/K x.b\/(w.heap.size<=x.b/\x.b<s.heap.size):=fun x hx=>(iD.1 hx).elim (fun hx=> .inl (a.inK x hx)) (fun hx=> .inr (.inl (hL.inK x hx)));have G:∀b,(FB b\/K b\/(w.heap.size<=b/\b<s.heap.size))->b<s.heap.size/\gTop<=b:=fun b hb=>by
  have:=d.size;have h7:=hI.hi t hI.inF.1;have h8:=hI.blk.lt;rcases hb with hb|hb|hb
  ·have:=a.lt b hb;have:=a.hi b hb;omega
  ·have:=hL.lt b hb;have:=hL.hi b hb;omega
  omega
 have r:=qn1 (k:=(max (((bn+ln:Nat):Int)-20) 0).toNat) X D E (.inr (.inr ⟨Q _ rfl,X.lt⟩)) G (by omega);exact⟨_,_,_,rfl,hI.newBack d (Blk.to (cs':=(TS.vals ({T with back:=(qhm T.back (outs.map Row.l))}:TS) g o (.slice (some ⟨b2,(if A=((max (((((bn+ln):Nat):Int)-20):Int) 0):Int).toNat then 0 else 0+((max (((((bn+ln):Nat):Int)-20):Int) 0):Int).toNat*1),none⟩) ((bn+ln)-((max (((((bn+ln):Nat):Int)-20):Int) 0):Int).toNat) (A-((max (((((bn+ln):Nat):Int)-20):Int) 0):Int).toNat)) (.slice pa pn pc))) al (by kernel_rfl)) (by simpa only[iJ]using r) (by unfold qhm;rw[<-L,<-iI,hZ,hJ,a.len,hL.len,List.map_drop];congr 1;omega) ⟨by omega,(fun e=>by cases e)⟩ (.inr ⟨_,_,rfl⟩) hK,d⟩
theorem qkQ {F:Nat->Prop}{w wq w':World}(h:w.heap.size<=wq.heap.size):∀b,more F wq w' b->more F w w' b:=fun b hb=>hb.elim .inl fun h2=> .inr ⟨by omega,h2.2⟩
theorem TermIn.moreOk {w w':World}{t g o:Nat}{ba:Option Addr}{bn bc:Nat}{pa:Option Addr}{pn pc:Nat}{T:TS}{F F1 F2 FB FP:Nat->Prop}(hI:TermIn w t g o ba bn bc pa pn pc T F F1 F2 FB FP)(hs:w.heap.size<=w'.heap.size):
  ∀b,more F w w' b->b<w'.heap.size/\gTop<=b:=fun b hb=>hb.elim (fun h=>⟨ic (hI.lt b h) hs,hI.hi b h⟩) fun h=>⟨h.2,by have:=hI.hi t hI.inF.1;have:=hI.blk.lt;omega⟩
def qbx (T:TS)(n:Int):TS:=
 if(!T.alt)=true/\T.top=0 then{T with grid:=upG T.grid T.top T.bot n T.cursor.sty,back:=qhm T.back (outG T.grid T.top T.bot n T.cursor.sty)}
 else{T with grid:=upG T.grid T.top T.bot n T.cursor.sty}
theorem qoF (t e:Nat)(b:List Cel)(k:Nat)(L:List (List Cel)):(qjs t e b k L).length=k:=by
 induction k with
 |zero=>rfl
 |succ k ih=>simp[qjs,ih]
section
variable {w w':World}{t g o:Nat}{ba:Option Addr}{bn bc:Nat}{pa:Option Addr}{pn pc:Nat}{T:TS}{F F1 F2 FB FP:Nat->Prop}
theorem TermIn.grid1 (h:TermIn w t g o ba bn bc pa pn pc T F F1 F2 FB FP)(hc:Ch F1 w w'){G':Gr}{F1':Nat->Prop}(hG:GridAt w' g G' F1')(hF:∀b,F1' b->more F1 w w' b):
  TermIn w' t g o ba bn bc pa pn pc ({T with grid:=G'}:TS) (more F w w') F1' F2 FB FP:=by
 have i:∀b,F2 b->b<w.heap.size:=h.g2.lt;have c:∀b,F b->b<w.heap.size:=h.lt;have j:=h.blk.lt;obtain⟨d,hL,hl⟩:=h.bk;have ap:∀(X:Nat->Prop),(∀b,X b->F b)->(∀b,F1 b-> ¬X b)-> ∀b,F1' b-> ¬X b:=fun X hX ha b hb hx=>by
  rcases hF b hb with a|a
  ·exact ha b a hx
  ·have:=c b (hX b hx);omega
 exact
 {blk:=h.blk.ch hc h.t1
  g1:=hG
  g2:=h.g2.ch hc fun b f a=>h.a12 b a f
  bk:=⟨d,hL.ch hc fun b hb a=>h.a1B b a hb,hl⟩
  bcap:=h.bcap
  ps:=⟨h.ps.1.ch hc fun ad e a=>h.a1P _ a (h.ps.2.2.2 ad e),h.ps.2⟩
  pz:=h.pz
  bz:=h.bz
  t1:=fun hb=>by
   rcases hF t hb with a|a
   ·exact h.t1 a
   ·omega
  t2:=h.t2,tB:=h.tB,tP:=h.tP
  a12:=ap F2 h.inF.2.2.1 h.a12
  a1B:=ap FB h.inF.2.2.2.1 h.a1B
  a2B:=h.a2B
  a1P:=ap FP h.inF.2.2.2.2 h.a1P
  a2P:=h.a2P
  inF:=⟨.inl h.inF.1,fun b hb=>(hF b hb).elim (fun a=> .inl (h.inF.2.1 b a)) .inr,fun b hb=> .inl (h.inF.2.2.1 b hb),fun b hb=> .inl (h.inF.2.2.2.1 b hb),fun b hb=> .inl (h.inF.2.2.2.2 b hb)⟩
  lt:=fun b hb=>hb.elim (fun hb=>ic (c b hb) hc.size) fun hb=>hb.2
  hi:=fun b hb=>hb.elim (h.hi b) fun hb=>by have:=h.hi t h.inF.1;omega}
theorem Ch.on {F:Nat->Prop}{w w1 w2:World}{t:Nat}(h:Ch F w w1)(k:Ch (fun j=>j=t) w1 w2)(ht:F t):Ch F w w2:=h.trans k fun _ _ e=>e▸ht
theorem TermIn.pk1 {g' o':Nat}{ba':Option Addr}{bn' bc':Nat}{pa':Option Addr}{pn' pc':Nat}{T':TS}{F1' F2' FB' FP':Nat->Prop}(h':TermIn w' t g' o' ba' bn' bc' pa' pn' pc' T' F F1' F2' FB' FP')(h:TermIn w t g o ba bn bc pa pn pc T F F1 F2 FB FP)(hX:Ch F w w'):TermAt w' t T' (more F w w'):=
 ⟨_,_,_,_,_,_,_,_,_,_,_,_,h'.mono (fun _ h=> .inl h) (h.moreOk hX.size)⟩
theorem TermIn.pk2 {w1:World}{B:Nat->Prop}{g' o':Nat}{ba':Option Addr}{bn' bc':Nat}{pa':Option Addr}{pn' pc':Nat}{T':TS}{F1' F2' FB' FP':Nat->Prop}(h':TermIn w' t g' o' ba' bn' bc' pa' pn' pc' T' (more F w w1) F1' F2' FB' FP')(hS:Ch B w1 w')(h:TermIn w t g o ba bn bc pa pn pc T F F1 F2 FB FP)(hX:Ch F w w'):TermAt w' t T' (more F w w'):=
 ⟨_,_,_,_,_,_,_,_,_,_,_,_,h'.mono (fun b hb=>hb.elim .inl (fun h2=> .inr ⟨h2.1,ic h2.2 hS.size⟩)) (h.moreOk hX.size)⟩
theorem TermIn.chF (h:TermIn w t g o ba bn bc pa pn pc T F F1 F2 FB FP)(hc:Ch F1 w w'):Ch F w w':=hc.mono fun b _ hb=>h.inF.2.1 b hb
theorem TermIn.cht (h:TermIn w t g o ba bn bc pa pn pc T F F1 F2 FB FP)(hc:Ch (fun j=>j=t) w w'):Ch F w w':=hc.mono fun b _ hb=>hb▸h.inF.1
theorem Ch.more {F:Nat->Prop}{w w1 w2:World}(h1:Ch F w w1)(h2:Ch (more F w w1) w1 w2):Ch F w w2:=h1.trans h2 fun i hi h=>h.elim id fun h=>by omega
end
theorem qn2 {w:World}{t g o:Nat}{ba:Option Addr}{bn bc:Nat}{pa:Option Addr}{pn pc:Nat}{T:TS}{F F1 F2 FB FP:Nat->Prop}(hI:TermIn w t g o ba bn bc pa pn pc T F F1 F2 FB FP)(hT:qai w)(hbk:T.back.length<=1000)(n:Int):CP 184 [pX t,iX n].toArray w fun e w'=>
 ∃ba' bn' bc' F1' FB',e= .returned (.tuple #[])/\TermIn w' t g o ba' bn' bc' pa pn pc (qbx T n) (more F w w') F1' F2 FB' FP/\Ch F w w':=by
 have u:=hI.g1.head;obtain⟨gv,u⟩:=u;obtain⟨⟨R,S⟩,⟨U,V⟩,W,X⟩:=hI.g1.ok;have Y:Df t g:=fun e=>hI.t1 (e▸hI.g1.inF);refine yA Tryz.func184 rfl<|ys<|yD [18] fun B Z q=>?_;have k:=hI.blk.ch q id;have C:=qi q hT id id;refine yd (uL 0 18) [] (.l (k.c 0) (.l (k.c 26) (.l (k.c 27) (.a (k.cs 5 5) .z)))) ?_;have hq:=(zt (zr w) q iZ)
 have f:=hI.same hq iZ;have j:=hq.size;refine yK 18 (yC (up_any g T.grid F1 T.top T.bot n T.cursor.sty _ C f.g1) ?_);rintro _ D ⟨E,G,a0,a1,H,I,rfl,r,v,J,K,L,M,i⟩;refine⟨_,rfl,?_⟩;have x:=k.ch i f.t1;have m:=f.grid1 i J K;have N:∀b,I b->more F B D b/\ ¬H b/\ ¬F2 b/\b≠t:=fun b hb=>by
  have d:=L b hb;refine⟨d.elim (fun h=> .inl (f.inF.2.1 b h)) .inr,fun h=>M b h hb,fun h=>?_,fun h=>?_⟩
  ·rcases d with d|d
   ·exact f.a12 b d h
   have:=f.g2.lt b h;omega
  rcases d with d|d
  ·exact f.t1 (h▸d)
  have:=f.blk.lt;omega
 have O:G<=1000:=by
  have p:=r.len;have d:=congrArg List.length v;rw[hZ]at d;unfold outG at d;rw[qoF]at d;unfold cntI qg2 at d;omega
 refine q8<|yd [19] [] .z<|yDe (nS ?_);refine ysr<|yp 6 [] (.l (x.c 95) .z)<|yw [29] (rN (rY T.alt)) (fun P=>?_) fun P=>?_
 ·refine yp 12 [] (.l (x.c 26) .z)<|ye<|yc (rE T.top 0) (fun Q=>?_) fun Q=>?_
  ·refine q7<|yq 2<|yo (yC (qlO m r.lines (fun e=>by cases E with|none=>exact(r.own.2.2.2.1 rfl).2|some b=>cases e) N (by have:=m.bk;obtain⟨rr,p,d⟩:=this;have h3:=p.len;have h4:rr.length=T.back.length:=(by have y:=congrArg List.length d;rw[hZ]at y;exact y);omega) O) ?_);rintro _ a4 ⟨a5,a6,a7,rfl,A,s⟩;refine⟨_,rfl,?_⟩;refine yE (qW ?_);rw[show qbx T n=_ from if_pos ⟨by simp[*],by omega⟩];rw[v]at A;exact⟨_,_,_,_,_,rfl,A.mono (fun b hb=>qkQ j b (qcc i.size s.size b hb)) (hI.moreOk (iq j (iq i.size s.size))),zt (hq.mono eZ) (Ch.more (f.chF i) (m.cht s)) iZ⟩
  refine qo (qW ?_);rw[show qbx T n=_ from if_neg (by rintro ⟨p,d⟩;simp_all)];exact⟨_,_,_,_,_,rfl,m.mono (qkQ j) (hI.moreOk (iq j i.size)),zt (hq.mono eZ) (f.chF i) iZ⟩
 refine yz 12<|ycf<|qo (qW ?_);rw[show qbx T n=_ from if_neg (by rintro ⟨p,d⟩;simp_all)];exact⟨_,_,_,_,_,rfl,m.mono (qkQ j) (hI.moreOk (iq j i.size)),zt (hq.mono eZ) (f.chF i) iZ⟩
theorem qir {w:World}{b:Nat}{l:List Int}(h:Rd w (some ⟨b,0,none⟩) (l.map (Value.int .i64)))(k:Nat)(hk:k<l.length):w.cell? ⟨b,k,none⟩=some (iX (l.getD k 0)):=by
 have:=qci h k hk;rwa[il,iN,iJ]at this
theorem qn3 (b:Nat)(i:Nat)(ak ar al:Int)(am at':ByteArray)(n cap:Nat)(l:List Int)(w:World)(hr:Rd w (some ⟨b,0,none⟩) (l.map (Value.int .i64)))(hb:b<w.heap.size)(hn:l.length=n):CP 188 [.agg #[iX ak,rX ar,uX al,.string am,.slice (some ⟨b,0,none⟩) n cap,.string at'],iX (i:Int)].toArray w (RQ (iX (qr l i)) w):=by
 refine yA Tryz.func188 rfl<|ysr<|yo (yN [iX ak,rX ar,uX al,.string am,.slice (some ⟨b,0,none⟩) n cap,.string at'] 190 fun k m g p a d=>?_);have q:=zn g (zm w);have f:=zu (zm w) d iZ;have h:=Ch.rd d hr id;refine yz 2<|ys<|ysr<|yp 5 [] (.l (a.c 4) .z)<|ye<|yc (rM (n:Int) (i:Int)) (fun j=>?_) fun j=>?_
 ·refine yx 1<|q9 (rS (yR1 (iX 1) ?_));exact⟨congrArg Ending.returned (congrArg (Value.int .i64) (by unfold qr;first|rw[if_neg (by first|omega|(intro e;subst e;simp at hn;omega))]|rw[if_pos (by omega)])),Up.ch f⟩
 refine yk<|ysr<|yp 7 [] (.l (a.c 4) (.i (i:Int) (n) (.l (o:=(0+((i:Int)).toNat*1)) (qci h i (by omega)) .z)))<|ye<|q9 (yR1 (iX (max ((l.getD i 0):Int) 1)) ?_);exact⟨congrArg Ending.returned (congrArg (Value.int .i64) (by unfold qr;first|rw[if_neg (by first|omega|(intro e;subst e;simp at hn;omega))]|rw[if_pos (by omega)])),Up.ch f⟩
theorem qn4 (b:Nat)(ak ar al:Int)(am at':ByteArray)(n cap:Nat)(l:List Int)(w:World)(hr:Rd w (some ⟨b,0,none⟩) (l.map (Value.int .i64)))(hb:b<w.heap.size)(hn:l.length=n)(h0:0<n):CP 202 [.agg #[iX ak,rX ar,uX al,.string am,.slice (some ⟨b,0,none⟩) n cap,.string at']].toArray w (RQ (iX (qaU l)) w):=by
 refine yA Tryz.func202 rfl<|ysr<|yo (yN [iX ak,rX ar,uX al,.string am,.slice (some ⟨b,0,none⟩) n cap,.string at'] 190 fun k m f p a d=>?_);have q:=zn f (zm w);have g:=zu (zm w) d iZ;have h:=Ch.rd d hr id;refine yz 2<|ys<|ysr<|yp 4 [] (.l (a.c 4) .z)<|ye<|yc (rE (n:Int) 0) (fun j=>?_) fun j=>?_
 ·exfalso;omega
 refine yk<|ysr<|yp 5 [] (.l (a.c 4) (.i 0 (n) (.l (o:=0) (qir h 0 (by omega)) .z)))<|ye<|q9 (yR1 (iX (l.getD 0 0)) ?_);exact⟨congrArg Ending.returned (congrArg (Value.int .i64) (by unfold qaU;first|rw[if_neg (by first|omega|(intro e;subst e;simp at hn;omega))]|rw[if_pos (by omega)])),Up.ch g⟩
theorem qn5 (i:Nat)(a0:Option Addr)(ak ar al:Int)(am at':ByteArray)(cap:Nat)(w:World):CP 188 [.agg #[iX ak,rX ar,uX al,.string am,.slice a0 0 cap,.string at'],iX (i:Int)].toArray w (RQ (iX (qr [] i)) w):=by
 refine yA Tryz.func188 rfl<|ysr<|yo (yN [iX ak,rX ar,uX al,.string am,.slice a0 0 cap,.string at'] 190 fun h j a k b d=>?_);have m:=zn a (zm w);have f:=zu (zm w) d iZ;refine yz 2<|ys<|ysr<|yp 5 [] (.l (b.c 4) .z)<|ye<|yc (rM 0 (i:Int)) (fun g=>?_) fun g=>?_
 ·refine yx 1<|q9 (rS (yR1 (iX 1) ?_));exact⟨rfl,Up.ch f⟩
 exfalso;omega
theorem qn6 (a0:Option Addr)(ak ar al:Int)(am at':ByteArray)(cap:Nat)(w:World):CP 202 [.agg #[iX ak,rX ar,uX al,.string am,.slice a0 0 cap,.string at']].toArray w (RQ (iX (qaU [])) w):=by
 refine yA Tryz.func202 rfl<|ysr<|yo (yN [iX ak,rX ar,uX al,.string am,.slice a0 0 cap,.string at'] 190 fun g h a i b d=>?_);have j:=zn a (zm w);have f:=zu (zm w) d iZ;refine yz 2<|ys<|ysr<|yp 4 [] (.l (b.c 4) .z)<|ye<|yct<|yx 1<|q9 (rS (yR1 (iX 0) ?_));exact⟨rfl,Up.ch f⟩
section
variable {w:World}{t:Nat}{T:TS}{F:Nat->Prop}
theorem move_at (h:TermAt w t T F)(x y:Int):CP 164 [.pointer (some ⟨t,0,none⟩),.int .i64 x,.int .i64 y].toArray w fun e w'=>e= .returned (.tuple #[])/\TermAt w' t (qe4 T x y) (more F w w')/\Ch F w w':=by
 obtain⟨g,o,ba,bn,bc,pa,pn,pc,a,b,FB,FP,hI⟩:=h;exact(qiq hI x y).mono fun e w' ⟨he,hI',hc⟩=>⟨he,⟨g,o,ba,bn,bc,pa,pn,pc,a,b,FB,FP,hI'.mono (fun _ h=> .inl h) (hI.moreOk hc.size)⟩,hI.cht hc⟩
theorem home_at (h:TermAt w t T F)(hb:(0<=T.top/\T.top<=60)/\0<=T.bot/\T.bot<=60)(x y:Int)(hx: -1000000<=x/\x<=1000000)(hy: -1000000<=y/\y<=1000000):
  CP 189 [.pointer (some ⟨t,0,none⟩),.int .i64 x,.int .i64 y].toArray w fun e w'=>e= .returned (.tuple #[])/\TermAt w' t (qeG T x y) (more F w w')/\Ch F w w':=by
 obtain⟨g,o,ba,bn,bc,pa,pn,pc,a,b,FB,FP,hI⟩:=h;exact(home_any hI hb x y hx hy).mono fun e w' ⟨he,hI',hc⟩=>⟨he,⟨g,o,ba,bn,bc,pa,pn,pc,a,b,FB,FP,hI'.mono (fun _ h=> .inl h) (hI.moreOk hc.size)⟩,hI.cht hc⟩
theorem qjx (h:TermAt w t T F)(hT:qai w)(hbk:T.back.length<=1000)(n:Int):CP 184 [.pointer (some ⟨t,0,none⟩),.int .i64 n].toArray w fun e w'=>e= .returned (.tuple #[])/\TermAt w' t (qbx T n) (more F w w')/\Ch F w w':=by
 obtain⟨g,o,ba,bn,bc,pa,pn,pc,b,a,FB,FP,hI⟩:=h;exact(qn2 hI hT hbk n).mono fun e w' ⟨ba',bn',bc',F1',FB',he,hI',hc⟩=>⟨he,⟨g,o,ba',bn',bc',pa,pn,pc,F1',a,FB',FP,hI'⟩,hc⟩
theorem TermAt.mono {F':Nat->Prop}(h:TermAt w t T F)(hF:∀b,F b->F' b)(hl:∀b,F' b->b<w.heap.size/\gTop<=b):TermAt w t T F':=by
 obtain⟨g,o,ba,bn,bc,pa,pn,pc,a,c,FB,FP,hI⟩:=h;exact⟨g,o,ba,bn,bc,pa,pn,pc,a,c,FB,FP,hI.mono hF hl⟩
theorem TermAt.moreOk (h:TermAt w t T F){w':World}(hs:w.heap.size<=w'.heap.size):∀b,more F w w' b->b<w'.heap.size/\gTop<=b:=by
 obtain⟨g,o,ba,bn,bc,pa,pn,pc,a,c,FB,FP,hI⟩:=h;exact hI.moreOk hs
theorem TermAt.next {w1 w2:World}{T2:TS}(h:TermAt w t T F)(c1:Ch F w w1)(c2:Ch (more F w w1) w1 w2)(h2:TermAt w2 t T2 (more (more F w w1) w1 w2)):TermAt w2 t T2 (more F w w2)/\Ch F w w2:=
 ⟨h2.mono (qcc c1.size c2.size) (h.moreOk (iq c1.size c2.size)),Ch.more c1 c2⟩
end
def qbv (T:TS):TS:=if T.cursor.y=T.bot-1 then qbx T 1 else if T.cursor.y<T.grid.h-1 then{T with cursor:=⟨T.cursor.x,T.cursor.y+1,T.cursor.late,T.cursor.sty⟩}else T
theorem down_at {w:World}{t:Nat}{T:TS}{F:Nat->Prop}(hA0:TermAt w t T F)(hT:qai w)(hbk:T.back.length<=1000)(hb:(0<=T.bot/\T.bot<=60)/\0<=T.cursor.y/\T.cursor.y<=60):CP 161 [pX t].toArray w fun e w'=>e= .returned (.tuple #[])/\TermAt w' t (qbv T) (more F w w')/\Ch F w w':=by
 obtain⟨g,o,ba,bn,bc,pa,pn,pc,B,C,FB,FP,hI⟩:=hA0;have hA0:TermAt w t T F:=⟨g,o,ba,bn,bc,pa,pn,pc,B,C,FB,FP,hI⟩
 have D:=hI.inF.1;obtain⟨gv,E⟩:=hI.g1.head;have Y:Df t g:=fun e=>hI.t1 (e▸hI.g1.inF);obtain⟨⟨Z,a0⟩,⟨a1,a2⟩,a3,a4⟩:=hI.g1.ok;refine yA Tryz.func161 rfl<|qa<|ys<|yD [] fun a5 a6 b=>?_;have k:=zt (Ch.refl (· =t) w) b eZ;have d:=hI.blk.ch b id;have G:=E.ch b id;have H:=qi b hT id id;refine yd (uL 0 12) [] (.l (d.c 3) (.l (d.c 27) (.q6 (T.bot-1) .z)))<|yDe (nS ?_);refine yc (rE T.cursor.y (T.bot-1)) (fun f=>?_) fun f=>?_
 ·refine q7<|yq 1 ?_;have I:=hI.scalar (T':=T) k d rfl rfl rfl rfl;have p:=hI.cht k;have J:=I.pk1 hI p;refine yo (yQ (qjx J H hbk (1)) ?_);rintro q ⟨K,L⟩;obtain⟨M,N⟩:=TermAt.next hA0 p L K;obtain⟨O,a7,a8,a9,aa,ab,ac,ad,ae,af,ag,ah,j⟩:=M;obtain⟨ai,aj⟩:=j.g1.head;have ak:Df t O:=fun e=>j.t1 (e▸j.g1.inF);refine yE (nB (qW ?_));have r:=Ch.on N (Ch.refl (· =t) q) D;have P:=j.pk2 (Ch.refl (· =t) q) hI r;rw[show qbv T=_ from if_pos f];exact⟨rfl,P,r⟩
 refine ys<|yD [] fun al am m=>?_;have n:=zt k m eZ;have a:=d.ch m id;have Q:=G.ch m id;refine yd (uL 0 15) [] (.l (a.c 3) (.l (a.c 0) (.l (Q.c 1) (.q6 (T.grid.h-1) .z))))<|yDe (nS ?_);refine yc (rL T.cursor.y (T.grid.h-1)) (fun s=>?_) fun s=>?_
 ·refine q7<|yp 9 [] (.l (a.c 3) (.q6 (T.cursor.y+1) .z))<|yo (yS a fun an R S=>?_);have u:=zt n S (fun i hi (h:i=t)=>h);refine yE (nB (qW ?_));have U:=hI.scalar (T':=({T with cursor:=(Cur.mk T.cursor.x (T.cursor.y+1) T.cursor.late T.cursor.sty)}:TS)) u (Blk.to R (by kernel_rfl)) rfl rfl rfl rfl;have v:=hI.cht u;have V:=U.pk1 hI v;rw[show qbv T=_ from(if_neg f).trans (if_pos s)];exact⟨rfl,V,v⟩
 refine qo (nB (qW ?_));have W:=hI.scalar (T':=T) n a rfl rfl rfl rfl;have A:=hI.cht n;have X:=W.pk1 hI A;rw[show qbv T=_ from(if_neg f).trans (if_neg (by omega))];exact⟨rfl,X,A⟩
def upT (T:TS):TS:=if T.cursor.y=T.top then{T with grid:=qeE T.grid T.top T.bot 1 T.cursor.sty}else if 0<T.cursor.y then{T with cursor:=⟨T.cursor.x,T.cursor.y-1,T.cursor.late,T.cursor.sty⟩}else T
theorem up_at {w:World}{t:Nat}{T:TS}{F:Nat->Prop}(hA0:TermAt w t T F)(hT:qai w)(hb:0<=T.cursor.y/\T.cursor.y<=60):CP 165 [pX t].toArray w fun e w'=>e= .returned (.tuple #[])/\TermAt w' t (upT T) (more F w w')/\Ch F w w':=by
 obtain⟨g,o,ba,bn,bc,pa,pn,pc,G,H,FB,FP,hI⟩:=hA0;have hA0:TermAt w t T F:=⟨g,o,ba,bn,bc,pa,pn,pc,G,H,FB,FP,hI⟩
 have I:=hI.inF.1;obtain⟨gv,Y⟩:=hI.g1.head;have Z:Df t g:=fun e=>hI.t1 (e▸hI.g1.inF);obtain⟨⟨a0,a1⟩,⟨a2,a3⟩,a4,a5⟩:=hI.g1.ok;refine yA Tryz.func165 rfl<|qa<|ys<|yD [] fun a6 a7 n=>?_;have f:=zt (Ch.refl (· =t) w) n eZ;have b:=hI.blk.ch n id;have J:=qi n hT id id;refine yd (uL 0 11) [] (.l (b.c 3) (.l (b.c 26) .z))<|yDe (nS ?_);refine yc (rE T.cursor.y T.top) (fun j=>?_) fun j=>?_
 ·refine yD [17] fun K a8 p=>?_;have s:=zt f p eZ;have d:=b.ch p id;have L:=qi p J id id;refine yd (uL 0 17) [] (.l (d.c 0) (.l (d.c 26) (.l (d.c 27) (.a (d.cs 5 5) .z)))) ?_;have u:=hI.scalar (T':=T) s d rfl rfl rfl rfl;have q:=hI.cht s;have a9:=u.pk1 hI q;have k:=u.mono (F':=more F w K) (fun _ h=> .inl h) (hI.moreOk q.size);refine yK 17 (yQ (qg3 _ _ _ (T.top) (T.bot) (1) T.cursor.sty _ L k.g1) ?_);rintro v ⟨M,r⟩;obtain⟨N,O⟩:=TermAt.next hA0 q (k.chF r) ⟨_,_,_,_,_,_,_,_,_,_,_,_,k.grid1 r M (fun _ h=>h)⟩;have aa:=k.chF r;obtain⟨P,ab,ac,ad,ae,af,ag,ah,ai,aj,ak,al,m⟩:=N;obtain⟨am,an⟩:=m.g1.head;have ao:Df t P:=fun e=>m.t1 (e▸m.g1.inF);refine q8<|yDe (nB (qW ?_));have A:=Ch.on O (Ch.refl (· =t) v) I;have Q:=m.pk2 (Ch.refl (· =t) v) hI A;rw[show upT T=_ from if_pos j];exact⟨rfl,Q,A⟩
 refine ysr<|yp 7 [] (.l (b.c 3) .z)<|ye<|yc (rL 0 T.cursor.y) (fun B=>?_) fun B=>?_
 ·refine q7<|yp 9 [] (.l (b.c 3) (.q6 (T.cursor.y-1) .z))<|yo (yS b fun ap R S=>?_);have C:=zt f S (fun i hi (h:i=t)=>h);refine yE (nB (qW ?_));have U:=hI.scalar (T':=({T with cursor:=(Cur.mk T.cursor.x (T.cursor.y-1) T.cursor.late T.cursor.sty)}:TS)) C (Blk.to R (by kernel_rfl)) rfl rfl rfl rfl;have D:=hI.cht C;have V:=U.pk1 hI D;rw[show upT T=_ from(if_neg j).trans (if_pos B)];exact⟨rfl,V,D⟩
 refine qo (nB (qW ?_));have W:=hI.scalar (T':=T) f b rfl rfl rfl rfl;have E:=hI.cht f;have X:=W.pk1 hI E;rw[show upT T=_ from(if_neg j).trans (if_neg (by omega))];exact⟨rfl,X,E⟩
def qa5 (T:TS)(r:Int):Int×Int:=
  let q:=if((T.shift&&T.draw1)||(!T.shift&&T.draw0))=true then qaF r else r
  if(!qbP q||(qb1 q&&(T.grid.w==1)))=true then(65533,1)else(q,qcC [q])
theorem qbQ {w:World}{b:Nat}{x:Int}{T:TypeId}(h:Blk w b [rX x] T):Runes w (some ⟨b,0,none⟩) 1 [x]:=
  ⟨rfl, fun j hj => ⟨_, rfl, by obtain rfl : j = 0 := by omega
                                exact h.cell 0⟩⟩
theorem sign_any {w:World}{t g o:Nat}{ba:Option Addr}{bn bc:Nat}{pa:Option Addr}{pn pc:Nat}{T:TS}{F F1 F2 FB FP:Nat->Prop}(hI:TermIn w t g o ba bn bc pa pn pc T F F1 F2 FB FP)(hT:qai w)(r:Int):CP 160 [pX t,rX r].toArray w (RQ (.tuple #[rX (qa5 T r).1,iX (qa5 T r).2]) w):=by
 have k:=hI.g1.head;obtain⟨gv,k⟩:=k;obtain⟨⟨bi,bj⟩,⟨bk,bl⟩,bm,bo⟩:=hI.g1.ok;have bp:Df t g:=fun e=>hI.t1 (e▸hI.g1.inF);refine yA Tryz.func160 rfl<|yx 2<|ys<|ysr<|yp 5 [] (.l (hI.blk.c 94) .z)<|yw [11] (rY T.shift) (fun d=>?_) fun d=>?_
 ·refine yp 12 [] (.i 1 (2) (.l (hI.blk.c 93) .z))<|yw [18] (rY T.draw1) (fun f=>?_) fun f=>?_
  ·refine yz 25<|yct<|q7<|yq 1<|yo (yQ (qji r _ hT.2) fun bq hq=>?_);have s:=qc8 hq;clear hq;have X:=zu (zm w) s iZ;have Y:=hI.blk.ch s id;have Z:=k.ch s id;have I:=qi s hT id id;refine yz 3<|ysr<|yq 1<|yo (yQ (qbK (qaF r) _ I.1) fun br hq=>?_);have u:=qc8 hq;clear hq;have a0:=zu X u iZ;have a1:=Y.ch u id;have a2:=Z.ch u id;have a3:=qi u I id id;refine yz 3<|ys<|ysr<|yq 1<|yo (yQ (qcJ (qaF r) _) fun bs hq=>?_);have v:=qc8 hq;clear hq;have m:=zu a0 v iZ;have a4:=a1.ch v id;have a5:=a2.ch v id;have J:=qi v a3 id id;refine yq 4<|yw [39] (rN (rY (qbP (qaF r)))) (fun b=>?_) fun b=>?_
   ·refine yz 16<|yct<|yx 2<|q9 (rS (yR2 [rX 65533,iX 1] .z ?_));refine⟨?_,Up.ch m⟩;unfold qa5;simp[d,f,b]
   refine yq 6<|yw [41] (rY (qb1 (qaF r))) (fun a=>?_) fun a=>?_
   ·refine yp 16 [] (.l (a4.c 0) (.l (a5.c 0) .z))<|ye<|yc (rE T.grid.w 1) (fun h=>?_) fun h=>?_
    ·refine yx 2<|q9 (rS (yR2 [rX 65533,iX 1] .z ?_));refine⟨?_,Up.ch m⟩;unfold qa5;simp[d,f,b,a,h]
    refine yk<|ysr<|yq 2<|yo (yB [rX (qaF r)] 21 1 fun bt bu a6 bv a7 K=>?_);have bw:=zn a6 m;have a8:=zu m K iZ;have a9:=qi K J id id;refine yo (yQ (qb2 _ 1 1 [(qaF r)] _ a9 (qbQ a7) (by omega)) fun bx hq=>?_);have aa:=qc8 hq;clear hq;have ab:=zu a8 aa iZ;refine yz 6<|q9 (yR2 [rX (qaF r),iX (qcC [(qaF r)])] .z ?_);refine⟨?_,Up.ch ab⟩;unfold qa5;simp[d,f,b,a,h]
   refine yz 16<|ycf<|yk<|ysr<|yq 2<|yo (yB [rX (qaF r)] 21 1 fun bz bA ac bB ad L=>?_);have bC:=zn ac m;have ae:=zu m L iZ;have af:=qi L J id id;refine yo (yQ (qb2 _ 1 1 [(qaF r)] _ af (qbQ ad) (by omega)) fun bD hq=>?_);have ag:=qc8 hq;clear hq;have ah:=zu ae ag iZ;refine yz 6<|q9 (yR2 [rX (qaF r),iX (qcC [(qaF r)])] .z ?_);refine⟨?_,Up.ch ah⟩;unfold qa5;simp[d,f,b,a]
  refine yp 18 [] (.l (hI.blk.c 94) .z)<|yw [24] (rN (rY T.shift)) (fun G=>?_) fun G=>?_
  ·exact absurd (d.symm.trans G) (by decide)
  have b:=G;refine yz 25<|ycf<|yk<|ysr<|yq 1<|yo (yQ (qbK r _ hT.1) fun bE hq=>?_);have x:=qc8 hq;clear hq;have ai:=zu (zm w) x iZ;have aj:=hI.blk.ch x id;have ak:=k.ch x id;have al:=qi x hT id id;refine yz 3<|ys<|ysr<|yq 1<|yo (yQ (qcJ r _) fun bF hq=>?_);have y:=qc8 hq;clear hq;have n:=zu ai y iZ;have am:=aj.ch y id;have an:=ak.ch y id;have M:=qi y al id id;refine yq 4<|yw [39] (rN (rY (qbP r))) (fun a=>?_) fun a=>?_
  ·refine yz 16<|yct<|yx 2<|q9 (rS (yR2 [rX 65533,iX 1] .z ?_));refine⟨?_,Up.ch n⟩;unfold qa5;simp[d,f,b,a]
  refine yq 6<|yw [41] (rY (qb1 r)) (fun h=>?_) fun h=>?_
  ·refine yp 16 [] (.l (am.c 0) (.l (an.c 0) .z))<|ye<|yc (rE T.grid.w 1) (fun j=>?_) fun j=>?_
   ·refine yx 2<|q9 (rS (yR2 [rX 65533,iX 1] .z ?_));refine⟨?_,Up.ch n⟩;unfold qa5;simp[d,f,b,a,h,j]
   refine yk<|ysr<|yq 2<|yo (yB [rX r] 21 1 fun bG bH ao bI ap N=>?_);have bJ:=zn ao n;have aq:=zu n N iZ;have ar:=qi N M id id;refine yo (yQ (qb2 _ 1 1 [r] _ ar (qbQ ap) (by omega)) fun bK hq=>?_);have au:=qc8 hq;clear hq;have av:=zu aq au iZ;refine yz 6<|q9 (yR2 [rX r,iX (qcC [r])] .z ?_);refine⟨?_,Up.ch av⟩;unfold qa5;simp[d,f,b,a,h,j]
  refine yz 16<|ycf<|yk<|ysr<|yq 2<|yo (yB [rX r] 21 1 fun bL bM aw bN ax O=>?_);have bO:=zn aw n;have ay:=zu n O iZ;have az:=qi O M id id;refine yo (yQ (qb2 _ 1 1 [r] _ az (qbQ ax) (by omega)) fun bP hq=>?_);have aA:=qc8 hq;clear hq;have aB:=zu ay aA iZ;refine yz 6<|q9 (yR2 [rX r,iX (qcC [r])] .z ?_);refine⟨?_,Up.ch aB⟩;unfold qa5;simp[d,f,b,a,h]
 refine yp 18 [] (.l (hI.blk.c 94) .z)<|yw [24] (rN (rY T.shift)) (fun H=>?_) fun H=>?_
 ·have f:=H;refine yp 25 [] (.i 0 (2) (.l (hI.blk.c 92) .z))<|ye<|yc (rY T.draw0) (fun b=>?_) fun b=>?_
  ·refine q7<|yq 1<|yo (yQ (qji r _ hT.2) fun bQ hq=>?_);have A:=qc8 hq;clear hq;have aC:=zu (zm w) A iZ;have aD:=hI.blk.ch A id;have aE:=k.ch A id;have P:=qi A hT id id;refine yz 3<|ysr<|yq 1<|yo (yQ (qbK (qaF r) _ P.1) fun bR hq=>?_);have B:=qc8 hq;clear hq;have aF:=zu aC B iZ;have aG:=aD.ch B id;have aH:=aE.ch B id;have aI:=qi B P id id;refine yz 3<|ys<|ysr<|yq 1<|yo (yQ (qcJ (qaF r) _) fun bS hq=>?_);have C:=qc8 hq;clear hq;have p:=zu aF C iZ;have aJ:=aG.ch C id;have aK:=aH.ch C id;have Q:=qi C aI id id;refine yq 4<|yw [39] (rN (rY (qbP (qaF r)))) (fun a=>?_) fun a=>?_
   ·refine yz 16<|yct<|yx 2<|q9 (rS (yR2 [rX 65533,iX 1] .z ?_));refine⟨?_,Up.ch p⟩;unfold qa5;simp[d,f,b,a]
   refine yq 6<|yw [41] (rY (qb1 (qaF r))) (fun h=>?_) fun h=>?_
   ·refine yp 16 [] (.l (aJ.c 0) (.l (aK.c 0) .z))<|ye<|yc (rE T.grid.w 1) (fun j=>?_) fun j=>?_
    ·refine yx 2<|q9 (rS (yR2 [rX 65533,iX 1] .z ?_));refine⟨?_,Up.ch p⟩;unfold qa5;simp[d,f,b,a,h,j]
    refine yk<|ysr<|yq 2<|yo (yB [rX (qaF r)] 21 1 fun bT bU aL bV aM R=>?_);have bW:=zn aL p;have aN:=zu p R iZ;have aO:=qi R Q id id;refine yo (yQ (qb2 _ 1 1 [(qaF r)] _ aO (qbQ aM) (by omega)) fun bX hq=>?_);have aP:=qc8 hq;clear hq;have aQ:=zu aN aP iZ;refine yz 6<|q9 (yR2 [rX (qaF r),iX (qcC [(qaF r)])] .z ?_);refine⟨?_,Up.ch aQ⟩;unfold qa5;simp[d,f,b,a,h,j]
   refine yz 16<|ycf<|yk<|ysr<|yq 2<|yo (yB [rX (qaF r)] 21 1 fun bY bZ aR c0 aS S=>?_);have c1:=zn aR p;have aT:=zu p S iZ;have aU:=qi S Q id id;refine yo (yQ (qb2 _ 1 1 [(qaF r)] _ aU (qbQ aS) (by omega)) fun c2 hq=>?_);have aV:=qc8 hq;clear hq;have aW:=zu aT aV iZ;refine yz 6<|q9 (yR2 [rX (qaF r),iX (qcC [(qaF r)])] .z ?_);refine⟨?_,Up.ch aW⟩;unfold qa5;simp[d,f,b,a,h]
  refine yk<|ysr<|yq 1<|yo (yQ (qbK r _ hT.1) fun c3 hq=>?_);have D:=qc8 hq;clear hq;have aX:=zu (zm w) D iZ;have aY:=hI.blk.ch D id;have aZ:=k.ch D id;have b0:=qi D hT id id;refine yz 3<|ys<|ysr<|yq 1<|yo (yQ (qcJ r _) fun c4 hq=>?_);have E:=qc8 hq;clear hq;have q:=zu aX E iZ;have b1:=aY.ch E id;have b2:=aZ.ch E id;have U:=qi E b0 id id;refine yq 4<|yw [39] (rN (rY (qbP r))) (fun a=>?_) fun a=>?_
  ·refine yz 16<|yct<|yx 2<|q9 (rS (yR2 [rX 65533,iX 1] .z ?_));refine⟨?_,Up.ch q⟩;unfold qa5;simp[d,f,b,a]
  refine yq 6<|yw [41] (rY (qb1 r)) (fun h=>?_) fun h=>?_
  ·refine yp 16 [] (.l (b1.c 0) (.l (b2.c 0) .z))<|ye<|yc (rE T.grid.w 1) (fun j=>?_) fun j=>?_
   ·refine yx 2<|q9 (rS (yR2 [rX 65533,iX 1] .z ?_));refine⟨?_,Up.ch q⟩;unfold qa5;simp[d,f,b,a,h,j]
   refine yk<|ysr<|yq 2<|yo (yB [rX r] 21 1 fun c5 c6 b3 c7 b4 V=>?_);have c8:=zn b3 q;have b5:=zu q V iZ;have b6:=qi V U id id;refine yo (yQ (qb2 _ 1 1 [r] _ b6 (qbQ b4) (by omega)) fun c9 hq=>?_);have b7:=qc8 hq;clear hq;have b8:=zu b5 b7 iZ;refine yz 6<|q9 (yR2 [rX r,iX (qcC [r])] .z ?_);refine⟨?_,Up.ch b8⟩;unfold qa5;simp[d,f,b,a,h,j]
  refine yz 16<|ycf<|yk<|ysr<|yq 2<|yo (yB [rX r] 21 1 fun ca cb b9 cc bb W=>?_);have cd:=zn b9 q;have bd:=zu q W iZ;have bf:=qi W U id id;refine yo (yQ (qb2 _ 1 1 [r] _ bf (qbQ bb) (by omega)) fun ce hq=>?_);have bg:=qc8 hq;clear hq;have bh:=zu bd bg iZ;refine yz 6<|q9 (yR2 [rX r,iX (qcC [r])] .z ?_);refine⟨?_,Up.ch bh⟩;unfold qa5;simp[d,f,b,a,h]
 exact absurd (d.symm.trans H) (by decide)
theorem qb4 {P:Program}{N:Nat}{Q:Exit->Act->World->Prop}{f:Fr}{w:World}{x y:Code}(f':Fr)(I:World->Prop)
  (h1:∀K:Act->World->Prop,(∀u,I u-> ∀a,Has N f' a->K a u)->WC P N (Exit.then K Q) x f w) (h2:∀u,I u->WC P N Q y f' u):WC P N Q (.seq x y) f w:=
 x_seq fun K hK=>h1 K fun u hI a ha=>hK f' u (h2 u hI) a ha
def qgq (P:Program)(N:Nat)(ops:Array Oper)(Q:Exit->Act->World->Prop)(kill:List Nat)(F:World->Prop)(done:List Nat)(f:Fr)(w:World)(k:Nat):Prop:=
 ∀a,Has N f a->wpOp P ops Q k (fun a' w'=>if kill.contains k then∃G:World->Prop,G w'/\qaD P ops Q kill G (ops.size-(done++[k]).length) (qY ops.size (done++[k])) a' w'
  else∃G:World->Prop,(∀u,G u->F u)/\G w'/\qaD P ops Q kill G (ops.size-(done++[k]).length) (qY ops.size (done++[k])) a' w') a w
theorem qas {P:Program}{N:Nat}{ops:Array Oper}{Q:Exit->Act->World->Prop}{kill:List Nat}{F:World->Prop}{w:World}{done:List Nat}{f:Fr}(i j:Nat)
  (hr:(Region.ready .any ops (qY ops.size done)==[i,j])=true) (hl:done.length<ops.size) (hi:qgq P N ops Q kill F done f w i) (hj:qgq P N ops Q kill F done f w j):WD P N ops Q kill F done f w:=by
 intro a ha;have hr':Region.ready .any ops (qY ops.size done)=[i,j]:=by simpa using hr
 have b:∀k,qgq P N ops Q kill F done f w k->wpOp P ops Q k (fun a' w'=>if kill.contains k then∃G:World->Prop,G w'/\qaD P ops Q kill G (ops.size-(done++[k]).length) ((qY ops.size done).setIfInBounds k true) a' w'
   else∃G:World->Prop,(∀u,G u->F u)/\G w'/\qaD P ops Q kill G (ops.size-(done++[k]).length) ((qY ops.size done).setIfInBounds k true) a' w') a w:=fun k h=>by
  rw[<-qcf];exact h a ha
 rw[show ops.size-done.length=(ops.size-(done++[i]).length)+1 by simp;omega];refine⟨fun c=>(by rw[hr']at c;cases c),fun k hk=>?_⟩;rw[hr']at hk;simp only[j9,jf,or_false]at hk;rcases hk with rfl|rfl
 ·exact b _ hi
 ·have:=b _ hj
  simpa using this
theorem qa4 {P:Program}{N:Nat}{ops:Array Oper}{Q:Exit->Act->World->Prop}{kill:List Nat}{F:World->Prop}{w:World}{done:List Nat}{f:Fr}(k:Nat)(done':List Nat)
  (hk:kill.contains k=false) (hd:done++[k]=done')
  (h:∀a,Has N f a->wpOp P ops Q k (fun a' w'=> ∃G:World->Prop,(∀u,G u->F u)/\G w'/\qaD P ops Q kill G (ops.size-done'.length) (qY ops.size done') a' w') a w):qgq P N ops Q kill F done f w k:=by
 intro a ha;subst hd;refine wpOp_mono (fun a' w' h'=>?_) (h a ha);rw[if_neg (by rw[hk];exact jH)];exact h'
theorem qav {P:Program}{N:Nat}{ops:Array Oper}{Q:Exit->Act->World->Prop}{kill:List Nat}{F:World->Prop}{w:World}{done:List Nat}{f:Fr}(k:Nat)(done':List Nat)
  (hk:kill.contains k=true) (hd:done++[k]=done')
  (h:∀a,Has N f a->wpOp P ops Q k (fun a' w'=> ∃G:World->Prop,G w'/\qaD P ops Q kill G (ops.size-done'.length) (qY ops.size done') a' w') a w):qgq P N ops Q kill F done f w k:=by
 intro a ha;subst hd;refine wpOp_mono (fun a' w' h'=>?_) (h a ha);rw[if_pos hk];exact h'
theorem qaI {P:Program}{N:Nat}{Q:Exit->Act->World->Prop}{f:Fr}{w:World}{id:Nat}{ops:Array Oper}(B:Nat->Prop)(kill:List Nat)(hm:P.follows .mixedOrders=true)
  (h:∀w',w'.heap=w.heap->Ch (fun _=>False) w w'->WD P N ops (Calm Q) kill (fun u=>Ch B w' u) [] f w'):WC P N Q (.region id ops true) f w:=fun a ha=>
 wp_mono (wp_region_any hm (qcb _ (fun u=>Ch B w.drew u) _ _ _ (h w.drew rfl (Ch.drew _ _) a ha))) fun _ _ _ hq=>hq.to
theorem qA {P:Program}{N:Nat}{ops:Array Oper}{Q:Exit->Act->World->Prop}{B C:Nat->Prop}{kill:List Nat}{w1 w2:World}{done:List Nat}{f:Fr}(hc:Ch C w1 w2)(hC:∀i,i<w1.heap.size->C i->B i)(h:WD P N ops Q kill (fun u=>Ch B w2 u) done f w2):
  ∀a,Has N f a-> ∃G:World->Prop,(∀u,G u->Ch B w1 u)/\G w2/\qaD P ops Q kill G (ops.size-done.length) (qY ops.size done) a w2:=
 x_held (fun _ hu=>(hc.mono hC).trans hu fun _ _ h=>h) (Ch.refl _ _) h
theorem qjy {P:Program}{N:Nat}{ops:Array Oper}{Q:Exit->Act->World->Prop}{B:Nat->Prop}{kill:List Nat}{w:World}{done:List Nat}{f:Fr}(h:WD P N ops Q kill (fun u=>Ch B w u) done f w):
  ∀a,Has N f a-> ∃G:World->Prop,G w/\qaD P ops Q kill G (ops.size-done.length) (qY ops.size done) a w:=fun a ha=>⟨fun u=>Ch B w u,Ch.refl _ _,h a ha⟩
def Cur.on (c:Cur)(W H:Int):Prop:=(0<=c.x/\c.x<W)/\0<=c.y/\c.y<H
structure Lim (W H:Int)(T:TS):Prop where
 wb:1<=W/\W<=60
 hb:1<=H/\H<=60
 g1:T.grid.w=W/\T.grid.h=H
 g2:T.other.w=W/\T.other.h=H
 cu:(0<=T.cursor.x/\T.cursor.x<W)/\0<=T.cursor.y/\T.cursor.y<H
 sa:(0<=T.saved.x/\T.saved.x<W)/\0<=T.saved.y/\T.saved.y<H
 aw:(0<=T.away.x/\T.away.x<W)/\0<=T.away.y/\T.away.y<H
 tb:0<=T.top/\T.top<T.bot/\T.bot<=H
 bk:T.back.length<=20
 rp:T.reply.size<=400
theorem Lim.all {W H:Int}{T:TS}(h:Lim W H T):(1<=W/\W<=60)/\(1<=H/\H<=60)/\(T.grid.w=W/\T.grid.h=H)/\(T.other.w=W/\T.other.h=H)/\((0<=T.cursor.x/\T.cursor.x<W)/\0<=T.cursor.y/\T.cursor.y<H)/\((0<=T.saved.x/\T.saved.x<W)/\0<=T.saved.y/\T.saved.y<H)/\
  ((0<=T.away.x/\T.away.x<W)/\0<=T.away.y/\T.away.y<H)/\(0<=T.top/\T.top<T.bot/\T.bot<=H)/\T.back.length<=20/\T.reply.size<=400:=⟨h.wb,h.hb,h.g1,h.g2,h.cu,h.sa,h.aw,h.tb,h.bk,h.rp⟩
theorem putG_w (G:Gr)(x y:Int)(c:Cel):(qjl G x y c).w=G.w/\(qjl G x y c).h=G.h:=by unfold qjl qfg;split<;>exact⟨rfl,rfl⟩
theorem qbM (G:Gr)(y a b:Int)(s:Sty):(qb3 G y a b s).w=G.w/\(qb3 G y a b s).h=G.h:=by unfold qb3 qfg;split<;>exact⟨rfl,rfl⟩
theorem qis (G:Gr)(x y n:Int)(s:Sty):(qhk G x y n s).w=G.w/\(qhk G x y n s).h=G.h:=by
 unfold qhk;split
 ·exact qbM (qfg G y _) _ _ _ _
 ·exact⟨rfl,rfl⟩
theorem qoG (G:Gr)(x y n:Int)(s:Sty):(qil G x y n s).w=G.w/\(qil G x y n s).h=G.h:=by
 unfold qil;split
 ·exact qbM (qfg G y _) _ _ _ _
 ·exact⟨rfl,rfl⟩
theorem qjz (l m:List (List Cel)):(qhm l m).length<=20:=by unfold qhm;rw[iG];omega
section
variable {W H:Int}{T:TS}
theorem Lim.grid (h:Lim W H T){G:Gr}(hG:G.w=T.grid.w/\G.h=T.grid.h):Lim W H {T with grid:=G}:=
 {h with g1:=⟨hG.1.trans h.g1.1,hG.2.trans h.g1.2⟩}
theorem Lim.cursor (h:Lim W H T){c:Cur}(hc:(0<=c.x/\c.x<W)/\0<=c.y/\c.y<H):Lim W H {T with cursor:=c}:={h with cu:=hc}
theorem qc9 (h:Lim W H T)(x y:Int):Lim W H (qe4 T x y):=by
 have a:=h.g1;have b:=h.wb;have c:=h.hb;exact h.cursor ⟨⟨by dsimp only;omega,by dsimp only;omega⟩,by dsimp only;omega,by dsimp only;omega⟩
theorem qg5 (h:Lim W H T)(x y:Int):Lim W H (qeG T x y):=by
 unfold qeG;split<;>exact qc9 h _ _
theorem qfm (h:Lim W H T)(n:Int):Lim W H (qbx T n):=by
 unfold qbx;split
 ·exact{h.grid (G:=upG T.grid T.top T.bot n T.cursor.sty) ⟨rfl,rfl⟩with bk:=qjz _ _}
 ·exact h.grid (G:=upG T.grid T.top T.bot n T.cursor.sty) ⟨rfl,rfl⟩
theorem qbN (h:Lim W H T):Lim W H (qbv T):=by
 have b:=h.g1;have a:=h.cu;unfold qbv;split
 ·exact qfm h 1
 ·split
  ·exact h.cursor ⟨a.1,by dsimp only;omega,by dsimp only;omega⟩
  ·exact h
theorem lim_up (h:Lim W H T):Lim W H (upT T):=by
 have a:=h.cu;unfold upT;split
 ·exact h.grid (G:=qeE T.grid T.top T.bot 1 T.cursor.sty) ⟨rfl,rfl⟩
 ·split
  ·exact h.cursor ⟨a.1,by dsimp only;omega,by dsimp only;omega⟩
  ·exact h
end
theorem qn7 {r:Int}(h:qbP r=true):1<=qoo r/\qoo r<=2:=by
 unfold qoo;by_cases hw:qb1 r=true
 ·rw[if_pos hw];omega
 ·rw[if_neg hw,if_pos h];omega
theorem qfn (T:TS)(r:Int)(hW:1<=T.grid.w):1<=(qa5 T r).2/\(qa5 T r).2<=2/\(qa5 T r).2<=T.grid.w:=by
 unfold qa5;dsimp only;generalize (if((T.shift&&T.draw1)||(!T.shift&&T.draw0))=true then qaF r else r)=q;split
 ·simp only;omega
 ·rename_i h
  simp only[jx,ju,ii,iU,not_or,not_and]at h;obtain⟨a,b⟩:=h;have h1':qbP q=true:=by simpa using a
  have:=qn7 h1';have e:qcC [q]=qoo q:=by simp[qcC]
  simp only[e];refine⟨this.1,this.2,?_⟩;unfold qoo at*;cases hw:qb1 q
  ·rw[hw]at this;simp[h1']at*;omega
  ·have:=b hw;simp;omega
def qbR (T:TS):TS:=if(T.cursor.late&&T.wrap)=true then qbv {T with cursor:=⟨0,T.cursor.y,false,T.cursor.sty⟩}else T
def qbD (T:TS)(n:Int):TS:=
 if T.grid.w<T.cursor.x+n then
  if T.wrap=true then qbv {T with cursor:=⟨0,T.cursor.y,T.cursor.late,T.cursor.sty⟩}else{T with cursor:=⟨T.cursor.x-1,T.cursor.y,T.cursor.late,T.cursor.sty⟩}
 else T
def qc5 (T:TS)(n:Int):TS:=if T.insert=true then{T with grid:=qhk T.grid T.cursor.x T.cursor.y n T.cursor.sty}else T
def qfJ (T:TS)(r:Int):TS:={T with grid:=qjl T.grid T.cursor.x T.cursor.y ⟨r,T.cursor.sty⟩}
def qgr (T:TS)(n:Int):TS:=if T.cursor.x+n=T.grid.w then{T with cursor:=⟨T.grid.w-1,T.cursor.y,T.wrap,T.cursor.sty⟩}else{T with cursor:=⟨T.cursor.x+n,T.cursor.y,false,T.cursor.sty⟩}
def qeH (T:TS)(r:Int):TS:=qgr (qfJ (qc5 (qbD (qbR T) (qa5 T r).2) (qa5 T r).2) (qa5 T r).1) (qa5 T r).2
section
variable {W H:Int}{T:TS}
theorem qfo (h:Lim W H T):Lim W H (qbR T):=by
 unfold qbR;have a:=h.cu;have b:=h.wb;split
 ·exact qbN (h.cursor ⟨⟨by dsimp only;omega,by dsimp only;omega⟩,a.2⟩)
 ·exact h
theorem qhA (h:Lim W H T){n:Int}(hn:1<=n/\n<=2/\n<=W):Lim W H (qbD T n):=by
 unfold qbD;have b:=h.g1;have a:=h.cu;have c:=h.wb;split
 ·split
  ·exact qbN (h.cursor ⟨⟨by dsimp only;omega,by dsimp only;omega⟩,a.2⟩)
  ·exact h.cursor ⟨⟨by dsimp only;omega,by dsimp only;omega⟩,a.2⟩
 ·exact h
theorem qhB (h:Lim W H T)(n:Int):Lim W H (qc5 T n):=by
 unfold qc5;split
 ·exact h.grid (qis _ _ _ _ _)
 ·exact h
theorem printB_x (h:Lim W H T){n:Int}(hn:1<=n/\n<=2/\n<=W):(qbD T n).cursor.x+n<=W:=by
 have a:=h.g1;have b:=h.cu;have c:=h.wb;have hd:∀T':TS,(qbv T').cursor.x=T'.cursor.x:=fun T'=>by
  unfold qbv qbx;split
  ·split<;>rfl
  ·split<;>rfl
 unfold qbD;split
 ·split
  ·rw[hd];dsimp only;omega
  ·dsimp only;omega
 ·omega
theorem qhC (h:Lim W H T)(r:Int):Lim W H (qfJ T r):=h.grid (putG_w T.grid T.cursor.x T.cursor.y ⟨r,T.cursor.sty⟩)
theorem qn8 (h:Lim W H T){n:Int}(hn:1<=n/\n<=2)(hx:T.cursor.x+n<=W):Lim W H (qgr T n):=by
 unfold qgr;have b:=h.g1;have a:=h.cu;have d:=h.wb;split
 ·exact h.cursor (c:=⟨T.grid.w-1,T.cursor.y,T.wrap,T.cursor.sty⟩) ⟨⟨by dsimp only;omega,by dsimp only;omega⟩,a.2⟩
 ·exact h.cursor (c:=⟨T.cursor.x+n,T.cursor.y,false,T.cursor.sty⟩) ⟨⟨by dsimp only;omega,by dsimp only;omega⟩,a.2⟩
theorem printC_x (T:TS)(n:Int):(qc5 T n).cursor=T.cursor:=by unfold qc5;split<;>rfl
theorem qjA (h:Lim W H T)(r:Int):Lim W H (qeH T r):=by
 have hn:=qfn T r (by have:=h.wb;have:=h.g1;omega);rw[h.g1.1]at hn;refine qn8 (qhC (qhB (qhA (qfo h) hn) _) _) ⟨hn.1,hn.2.1⟩ ?_;show(qc5 (qbD (qbR T) (qa5 T r).2) (qa5 T r).2).cursor.x+_<=W;rw[printC_x];exact printB_x (qfo h) hn
end
def tmA (x:Option (Nat×Nat))(t:Nat)(T:TS):Asn:=
  ⟨fun w F=> ∃g o ba bn bc pa pn pc F1 F2 FB FP,TermIn w t g o ba bn bc pa pn pc T F F1 F2 FB FP/\(x=none\/x=some (g,o)),
   fun⟨g,o,ba,bn,bc,pa,pn,pc,F1,F2,FB,FP,hI,hx⟩ hc hn=>⟨g,o,ba,bn,bc,pa,pn,pc,F1,F2,FB,FP,hI.same hc hn,hx⟩,
   fun⟨g,o,ba,bn,bc,pa,pn,pc,F1,F2,FB,FP,hI,hx⟩ hF hl=>⟨g,o,ba,bn,bc,pa,pn,pc,F1,F2,FB,FP,hI.mono hF hl,hx⟩⟩
abbrev qay (t:Nat)(T:TS):Asn:=tmA none t T
theorem tmA.at {x:Option (Nat×Nat)}{t:Nat}{T:TS}{w:World}{F:Nat->Prop}(h:(tmA x t T).P w F):TermAt w t T F:=by
  obtain⟨g,o,ba,bn,bc,pa,pn,pc,a,b,FB,FP,hI,_⟩:=h;exact⟨g,o,ba,bn,bc,pa,pn,pc,a,b,FB,FP,hI⟩
theorem tmA.of {t:Nat}{T:TS}{w:World}{F:Nat->Prop}(h:TermAt w t T F):(qay t T).P w F:=by
  obtain⟨g,o,ba,bn,bc,pa,pn,pc,a,b,FB,FP,hI⟩:=h;exact⟨g,o,ba,bn,bc,pa,pn,pc,a,b,FB,FP,hI,.inl rfl⟩
def okc (c:Nat):Bool:=Nat.blt c 108&&Nat.ble 2 c&& !Nat.beq c 97&& !Nat.beq c 104
abbrev TS.flt (T:TS):List Value:=T.vals 0 0 undef undef
theorem app3_at {a b m z y:List Value}{c:Nat}(hl:a.length=b.length)(h1:c<a.length->a[c]? =b[c]?)(hy:z.length=y.length)(h2:∀d,d<z.length->c=a.length+m.length+d->z[d]? =y[d]?):(a++m++z)[c]? =(b++m++y)[c]? :=by
  have ha:(a++m).length=a.length+m.length:=hJ;have hb:(b++m).length=a.length+m.length:=by rw[hJ,hl]
  by_cases hc:c<a.length+m.length
  · rw[show(a++m++z)[c]? =(a++m)[c]? from iw (by omega),show(b++m++y)[c]? =(b++m)[c]? from iw (by omega)]
    by_cases hd:c<a.length
    · rw[iw hd,iw (by omega),h1 hd]
    · rw[iF (by omega),iF (by omega),hl]
  · rw[show(a++m++z)[c]? =z[c-(a++m).length]? from iF (by omega),show(b++m++y)[c]? =y[c-(b++m).length]? from iF (by omega),ha,hb]
    by_cases hz:c-(a.length+m.length)<z.length
    · exact h2 _ hz (by omega)
    · rw[jn (by omega),jn (by omega)]
theorem vals_at (T:TS)(g o:Nat)(bk ps:Value){c:Nat}(h:okc c=true):(T.vals g o bk ps)[c]? =T.flt[c]? :=by
  have hk:(qhl T.tabs).length=60:=by simp[qhl]
  unfold okc at h;simp only[ii,Nat.blt_eq,Nat.ble_eq,ju]at h;obtain⟨⟨⟨i,a⟩,b⟩,e⟩:=h;unfold TS.flt TS.vals;refine app3_at rfl (fun j=>?_) rfl fun d hd hc=>?_
  · match c,a with
    |c+2,_=>rfl
  · rw[hk]at hc
    have hc:c=28+60+d:=hc;subst hc
    match d,hd with
    |0,_|1,_|2,_|3,_|4,_|5,_|6,_|7,_|8,_=>rfl
    |9,_=>exact absurd b (by decide)
    |10,_|11,_|12,_|13,_|14,_|15,_=>rfl
    |16,_=>exact absurd e (by decide)
    |17,_|18,_|19,_=>rfl
    |d+20,h=>exact absurd h (by simp only[iz,iP];omega)
section
variable {w0 w w':World}{F0:Nat->Prop}{l:List Asn}{x:Option (Nat×Nat)}{t:Nat}{T T':TS}{g o:Nat}
theorem Sep.startT {F:Nat->Prop}(h:TermAt w t T F):Sep w F w [qay t T]:=by
  have h':=h;obtain⟨g,o,ba,bn,bc,pa,pn,pc,a,b,FB,FP,hI⟩:=h';exact Sep.one (tmA.of h) hI.lt
theorem Gz.of {F:Nat->Prop}(h:TermAt w t T F):Gz w F:=by
  obtain⟨g,o,ba,bn,bc,pa,pn,pc,a,c,FB,FP,hI⟩:=h;have hl:=fun b hb=>(⟨hI.hi b hb,hI.lt b hb⟩:gTop<=b/\b<w.heap.size)
  exact⟨by have:=hl t hI.inF.1;omega,hl⟩
theorem Sep.tb (h:Sep w0 F0 w l)(hg:Gz w0 F0)(hT:qai w0):qai w:=
  qi h.ch hT (fun hb=>by have:=hg.lo _ hb;have:=g_lt;omega) (fun hb=>by have:=hg.lo _ hb;have:=g_lt;omega)
theorem Sep.in (h:Sep w0 F0 w l){i:Nat}(hi:l[i]? =some (tmA x t T)):∃g o ba bn bc pa pn pc F F1 F2 FB FP,TermIn w t g o ba bn bc pa pn pc T F F1 F2 FB FP/\(x=none\/x=some (g,o)):=by
  obtain⟨F,⟨g,o,ba,bn,bc,pa,pn,pc,F1,F2,FB,FP,hI,hx⟩,_⟩:=h.at hi;exact⟨g,o,ba,bn,bc,pa,pn,pc,F,F1,F2,FB,FP,hI,hx⟩
theorem Sep.opn (h:Sep w0 F0 w l)(i:Nat)(hi:l[i]? =some (tmA x t T):=by rfl):∃g o,Sep w0 F0 w (l.set i (tmA (some (g,o)) t T)):=by
  obtain⟨⟨g,o⟩,h⟩:=h.ref (B:=fun y:Nat×Nat=>tmA (some y) t T) hi fun F ⟨g,o,ba,bn,bc,pa,pn,pc,a,b,FB,FP,hI,hx⟩=>⟨(g,o),g,o,ba,bn,bc,pa,pn,pc,a,b,FB,FP,hI,.inr rfl⟩
  exact⟨g,o,h⟩
theorem Sep.tc (h:Sep w0 F0 w l)(i c:Nat)(hi:l[i]? =some (tmA x t T):=by rfl)(hc:okc c=true:=by rfl):w.cell? ⟨t,c,none⟩=some (T.flt.getD c undef):=by
  obtain⟨g,o,ba,bn,bc,pa,pn,pc,F,a,b,FB,FP,hI,hx⟩:=h.in hi;have hl:c<T.flt.length:=by
    have:T.flt.length=108:=qch ..;unfold okc at hc;simp only[ii,Nat.blt_eq]at hc;omega
  rw[hI.blk.cell,vals_at T _ _ _ _ hc,ik,ig hl,Option.getD_some]
theorem Sep.ts (h:Sep w0 F0 w l)(i c n:Nat)(hi:l[i]? =some (tmA x t T):=by rfl)(hc:((List.range' c n).all okc)=true:=by rfl):qc6 (qcs t c ((T.flt.drop c).take n)) w:=by
  have hT:T.flt.length=108:=qch ..;have a:∀(m:List Value) (o:Nat),(∀j v,m[j]? =some v->T.flt[o+j]? =some v/\okc (o+j)=true)->qc6 (qcs t o m) w:=by
    intro m
    induction m with
    |nil=>exact fun _ _=>trivial
    |cons v m ih=>
      intro o hm;refine⟨?_,ih (o+1) fun j u hj=>by rw[show o+1+j=o+(j+1) by omega];exact hm (j+1) u (by simpa using hj)⟩;obtain⟨b,d⟩:=hm 0 v rfl;show w.cell? ⟨t,o,none⟩=some v;rw[h.tc i o hi d,ik,show T.flt[o]? =some v from b,Option.getD_some]
  refine a _ c fun j v hj=>?_;rw[j5]at hj;split at hj
  · rename_i hn
    rw[jg]at hj;exact⟨hj,j3.1 hc _ (by rw[List.mem_range'];exact⟨j,hn,by omega⟩)⟩
  · cases hj
theorem Sep.tg (h:Sep w0 F0 w l)(i:Nat)(hi:l[i]? =some (tmA (some (g,o)) t T):=by rfl):w.cell? ⟨t,0,none⟩=some (.pointer (some ⟨g,0,none⟩)):=by
  obtain⟨g',o',ba,bn,bc,pa,pn,pc,F,a,b,FB,FP,hI,hx⟩:=h.in hi;obtain⟨rfl,rfl⟩:=iC (ia (hx.resolve_left (fun e=>by cases e)));exact(hI.blk.cell 0).trans rfl
theorem Sep.to (h:Sep w0 F0 w l)(i:Nat)(hi:l[i]? =some (tmA (some (g,o)) t T):=by rfl):w.cell? ⟨t,1,none⟩=some (.pointer (some ⟨o,0,none⟩)):=by
  obtain⟨g',o',ba,bn,bc,pa,pn,pc,F,a,b,FB,FP,hI,hx⟩:=h.in hi;obtain⟨rfl,rfl⟩:=iC (ia (hx.resolve_left (fun e=>by cases e)));exact(hI.blk.cell 1).trans rfl
theorem Sep.gw (h:Sep w0 F0 w l)(i:Nat)(hi:l[i]? =some (tmA (some (g,o)) t T):=by rfl):w.cell? ⟨g,0,none⟩=some (.int .i64 T.grid.w)/\w.cell? ⟨g,1,none⟩=some (.int .i64 T.grid.h):=by
  obtain⟨g',o',ba,bn,bc,pa,pn,pc,F,a,b,FB,FP,hI,hx⟩:=h.in hi;obtain⟨rfl,rfl⟩:=iC (ia (hx.resolve_left (fun e=>by cases e)));obtain⟨v,hv⟩:=hI.g1.head;exact⟨hv.c 0,hv.c 1⟩
theorem SepOn.tc {is:List Nat}(h:SepOn w0 F0 l is w)(i c:Nat)(hm:is.contains i=true:=by rfl)(hi:l[i]? =some (tmA x t T):=by rfl)(hc:okc c=true:=by rfl):w.cell? ⟨t,c,none⟩=some (T.flt.getD c undef):=by
  obtain⟨l',h,e⟩:=h;exact h.tc i c ((jE.1 e i (by simpa using hm)).trans hi) hc
theorem SepOn.ts {is:List Nat}(h:SepOn w0 F0 l is w)(i c n:Nat)(hm:is.contains i=true:=by rfl)(hi:l[i]? =some (tmA x t T):=by rfl)(hc:((List.range' c n).all okc)=true:=by rfl):qc6 (qcs t c ((T.flt.drop c).take n)) w:=by
  obtain⟨l',h,e⟩:=h;exact h.ts i c n ((jE.1 e i (by simpa using hm)).trans hi) hc
theorem SepOn.tg {is:List Nat}(h:SepOn w0 F0 l is w)(i:Nat)(hm:is.contains i=true:=by rfl)(hi:l[i]? =some (tmA (some (g,o)) t T):=by rfl):w.cell? ⟨t,0,none⟩=some (.pointer (some ⟨g,0,none⟩)):=by
  obtain⟨l',h,e⟩:=h;exact h.tg i ((jE.1 e i (by simpa using hm)).trans hi)
theorem SepOn.gw {is:List Nat}(h:SepOn w0 F0 l is w)(i:Nat)(hm:is.contains i=true:=by rfl)(hi:l[i]? =some (tmA (some (g,o)) t T):=by rfl):w.cell? ⟨g,0,none⟩=some (.int .i64 T.grid.w)/\w.cell? ⟨g,1,none⟩=some (.int .i64 T.grid.h):=by
  obtain⟨l',h,e⟩:=h;exact h.gw i ((jE.1 e i (by simpa using hm)).trans hi)
theorem Sep.met {P:Program}{k:FuncId}{args:Array Value}{v:Value}(h:Sep w0 F0 w l)(i:Nat)(hk:∀F,TermAt w t T F->(∀b,F b->(F0 b\/w0.heap.size<=b)/\b<w.heap.size)->Calls P k args w fun e w'=>e= .returned v/\TermAt w' t T' (more F w w')/\Ch F w w')(hi:l[i]? =some (tmA x t T):=by rfl):
    Calls P k args w fun e w'=>e= .returned v/\Sep w0 F0 w' (l.set i (qay t T')):=
  h.step i (fun F hA hF=>(hk F (tmA.at hA) hF).mono fun _ _ ⟨he,h1,hc⟩=>⟨he,tmA.of h1,hc⟩) hi
theorem Sep.peek {P:Program}{k:FuncId}{args:Array Value}{v:Value}(h:Sep w0 F0 w l)(i:Nat)(hk:∀{g o ba bn bc pa pn pc F F1 F2 FB FP},TermIn w t g o ba bn bc pa pn pc T F F1 F2 FB FP->Calls P k args w (RQ v w))(hi:l[i]? =some (tmA x t T):=by rfl):
    Calls P k args w fun e w'=>e= .returned v/\Sep w0 F0 w' l:=by
  obtain⟨g,o,ba,bn,bc,pa,pn,pc,F,F1,F2,FB,FP,hI,hx⟩:=h.in hi;exact h.look (hk hI)
theorem tmA.grd {w w':World}{F:Nat->Prop}{G':Gr}(hI:(tmA (some (g,o)) t T).P w F):∃F1,GridAt w g T.grid F1/\ ∀{w'},GridAt w' g G' (more F1 w w')->Ch F1 w w'->(tmA (some (g,o)) t {T with grid:=G'}).P w' (more F w w')/\Ch F w w':=by
  obtain⟨g',o',ba,bn,bc,pa,pn,pc,F1,a,FB,FP,hI,hx⟩:=hI;obtain⟨rfl,rfl⟩:=iC (ia (hx.resolve_left (fun e=>by cases e)));exact⟨F1,hI.g1,fun b hc=>⟨⟨g,o,ba,bn,bc,pa,pn,pc,_,a,FB,FP,hI.grid1 hc b (fun _ h=>h),.inr rfl⟩,hI.chF hc⟩⟩
theorem Sep.grd {P:Program}{k:FuncId}{args:Array Value}{v:Value}{G':Gr}(h:Sep w0 F0 w l)(i:Nat)(hk:∀F1,GridAt w g T.grid F1->Calls P k args w fun e w'=>e= .returned v/\GridAt w' g G' (more F1 w w')/\Ch F1 w w')(hi:l[i]? =some (tmA (some (g,o)) t T):=by rfl):
    Calls P k args w fun e w'=>e= .returned v/\Sep w0 F0 w' (l.set i (tmA (some (g,o)) t {T with grid:=G'})):=
  h.step i (fun F hA _=>by
    obtain⟨F1,h1,h2⟩:=tmA.grd (w':=w) (G':=G') hA
    exact(hk F1 h1).mono fun _ _ ⟨he,h3,hc⟩=>⟨he,h2 h3 hc⟩) hi
theorem Sep.grdV {P:Program}{k:FuncId}{args:Array Value}{G':Gr}(h:Sep w0 F0 w l)(i:Nat)(hk:∀F1,GridAt w g T.grid F1->Calls P k args w fun e w'=> ∃v,e= .returned v/\GridAt w' g G' (more F1 w w')/\Ch F1 w w')(hi:l[i]? =some (tmA (some (g,o)) t T):=by rfl):
    Calls P k args w fun e w'=> ∃v,e= .returned v/\Sep w0 F0 w' (l.set i (tmA (some (g,o)) t {T with grid:=G'})):=
  h.stepV i (fun F hA _=>by
    obtain⟨F1,h1,h2⟩:=tmA.grd (w':=w) (G':=G') hA
    exact(hk F1 h1).mono fun _ _ ⟨v,he,h3,hc⟩=>⟨v,he,h2 h3 hc⟩) hi
theorem Sep.tfin {F:Nat->Prop}{v:Value}(h:Sep w0 F w l)(hg:Gz w0 F)(e:T'=T)(hi:l[0]? =some (tmA x t T):=by rfl):Ending.returned v= .returned v/\TermAt w t T' (more F w0 w)/\Ch F w0 w:=by
  obtain⟨a,b⟩:=h.fin hg hi;exact⟨rfl,e▸tmA.at a,b⟩
theorem Sep.cut (h:Sep w0 F0 w l)(hi:l[0]? =some (tmA x t T))(e:T'=T):Sep w0 F0 w [qay t T']:=h.only hi fun _ hA=>e▸tmA.of (tmA.at hA)
theorem Sep.cuts (h:Sep w0 F0 w l)(n:Nat)(hi:l[0]? =some (tmA x t T))(e:T'=T):Sep w0 F0 w ((l.set 0 (qay t T')).take n):=by
  obtain⟨_,h'⟩:=h.ref (B:=fun _:Unit=>qay t T') hi fun _ hA=>⟨(),e▸tmA.of (tmA.at hA)⟩
  exact h'.take n
end
section
variable {P:Program}{N:Nat}{ops:Array Oper}{Q:Exit->Act->World->Prop}{f:Fr}{k:Nat}{K:Act->World->Prop}{w0 w:World}{F0:Nat->Prop}{l:List Asn}{x:Option (Nat×Nat)}{t:Nat}{T:TS}
theorem Sep.setT {w':World}{i:Nat}{T':TS}{vs:List Value}{c:Nat}(h:Sep w0 F0 w l)(hi:l[i]? =some (tmA x t T))(hs:∀{g o bk ps},Blk w t (T.vals g o bk ps) qar->Blk w' t (put (T.vals g o bk ps) c vs) qar/\Ch (fun k=>k=t) w w')(he:∀g o bk ps,put (T.vals g o bk ps) c vs=T'.vals g o bk ps)(hg:T'.grid=T.grid)(ho:T'.other=T.other)(hk:T'.back=T.back)(hp:T'.parser.params=T.parser.params):Sep w0 F0 w' (l.set i (tmA x t T')):=by
  obtain⟨F,a,b,d⟩:=h.ex;obtain⟨g,o,ba,bn,bc,pa,pn,pc,e,j,FB,FP,hI,hx⟩:=a i _ hi;obtain⟨hB,hc⟩:=hs hI.blk;rw[he]at hB;have m:Ch (F i) w w':=hI.cht hc;refine h.upd hi F a b d ?_ m;exact⟨g,o,ba,bn,bc,pa,pn,pc,e,j,FB,FP,(hI.scalar hc hB hg ho hk hp).mono (fun _ h=> .inl h) (hI.moreOk hc.size),hx⟩
theorem zT (i:Nat)(T':TS)(h:Sep w0 F0 w l)(hK:∀w',Sep w0 F0 w' (l.set i (tmA x t T'))-> ∀a',Has N (pushd (dO ops k) undef f) a'->K a' w')
    (hs:storeAt P N ops f k=some (t,sP P N ops f k,sV P N ops f k,dO ops k):=by kernel_rfl) (hi:l[i]? =some (tmA x t T):=by rfl) (hfit:Nat.ble (sP P N ops f k+(sV P N ops f k).length) 108=true:=by kernel_rfl)
    (he:∀g o bk ps,put (T.vals g o bk ps) (sP P N ops f k) (sV P N ops f k)=T'.vals g o bk ps:=by intro g o bk ps;kernel_rfl) (hg:T'.grid=T.grid:=by rfl) (ho:T'.other=T.other:=by rfl) (hk:T'.back=T.back:=by rfl) (hp:T'.parser.params=T.parser.params:=by rfl):∀a,Has N f a->wpOp P ops Q k K a w:=by
  obtain⟨g,o,ba,bn,bc,pa,pn,pc,F,b,c,FB,FP,hI,hx⟩:=h.in hi;refine yS hI.blk (fun w' hB hc=>hK w' (h.setT hi (fun{g' o' bk' ps'} hb=>?_) he hg ho hk hp)) hs (by rw[qch];exact hfit);have e:=hb.inj hI.blk;rw[e.1];exact⟨hB,hc⟩
theorem zTi (i:Nat)(T':TS)(c:Nat)(vs:List Value)(h:Sep w0 F0 w l)(he:∀g o bk ps,put (T.vals g o bk ps) c vs=T'.vals g o bk ps)(hK:∀w',Sep w0 F0 w' (l.set i (tmA x t T'))-> ∀a',Has N (pushd (dO ops k) undef f) a'->K a' w')
    (hs:storeAt P N ops f k=some (t,c,vs,dO ops k):=by kernel_rfl) (hi:l[i]? =some (tmA x t T):=by rfl) (hfit:c+vs.length<=108:=by simp only[iz,iP];omega)
    (hg:T'.grid=T.grid:=by rfl) (ho:T'.other=T.other:=by rfl) (hk:T'.back=T.back:=by rfl) (hp:T'.parser.params=T.parser.params:=by rfl):∀a,Has N f a->wpOp P ops Q k K a w:=by
  obtain⟨g,o,ba,bn,bc,pa,pn,pc,F,b,d,FB,FP,hI,hx⟩:=h.in hi;refine qaL _ _ _ hs hI.blk (by rw[qch];exact hfit) fun w' hB hc=>hK w' (h.setT hi (fun{g' o' bk' ps'} hb=>?_) he hg ho hk hp);have e:=hb.inj hI.blk;rw[e.1];exact⟨hB,hc⟩
end
theorem TermAt.eq' {w:World}{t:Nat}{T T':TS}{F:Nat->Prop}(h:TermAt w t T F)(e:T'=T):TermAt w t T' F:=e▸h
theorem qd1 {w:World}{t:Nat}{W H:Int}{T:TS}{F:Nat->Prop}(hA:TermAt w t T F)(hT:qai w)(hL:Lim W H T):CP 161 [pX t].toArray w fun e w'=>e= .returned (.tuple #[])/\TermAt w' t (qbv T) (more F w w')/\Ch F w w':=
  down_at hA hT (by have:=hL.bk;omega) (by have:=hL.tb;have:=hL.cu;have:=hL.hb;omega)
theorem print_at {w:World}{t:Nat}{W H:Int}{T:TS}{F:Nat->Prop}(hA0:TermAt w t T F)(hT:qai w)(hL:Lim W H T)(r:Int):CP 129 [pX t,rX r].toArray w fun e w'=>e= .returned (.tuple #[])/\TermAt w' t (qeH T r) (more F w w')/\Ch F w w':=by
 have h:=Sep.startT hA0;have hg:=Gz.of hA0;have hM:=hL;have M:=hM.all;refine yA Tryz.func129 rfl<|ysr<|yq 2<|yo (yQ (h.peek 0 fun hI=>sign_any hI (h.tb hg hT) r) fun u h=>?_);have p:=qfn T r (by omega);rw[hL.g1.1]at p;refine yz 8<|qb4 ([(0,pX t),(1,rX (qa5 T r).1),(4,iX (qa5 T r).2)]) (fun u=>Sep w F u [qay t (qbR T)]) (fun N k=>?_) (fun u h=>?_)
 ·refine ysr<|yp 6 [] (.l (h.tc 0 4) .z)<|yw [16] (rY T.cursor.late) (fun d=>?_) fun d=>?_
  ·refine yp 11 [] (.l (h.tc 0 88) .z)<|ye<|yc (rY T.wrap) (fun i=>?_) fun i=>?_
   ·refine ysr<|yq 5<|yo (zT 0 ({T with cursor:=(Cur.mk 0 T.cursor.y T.cursor.late T.cursor.sty)}:TS) h fun u h=>?_);refine yq 9<|yo (zT 0 ({T with cursor:=(Cur.mk 0 T.cursor.y false T.cursor.sty)}:TS) h fun u h=>?_);refine ye<|q7<|yq 1 ?_;have D:Lim W H ({T with cursor:=(Cur.mk 0 T.cursor.y false T.cursor.sty)}:TS):={hL with cu:=⟨⟨(show(0:Int)<=0 by omega),(show(0:Int)<W by omega)⟩,(show(0:Int)<=T.cursor.y by omega),(show(T.cursor.y:Int)<H by omega)⟩}
    refine yo (yQ (h.met 0 fun F hA hF=>qd1 hA (h.tb hg hT) D) fun u h=>?_);refine yE (fun a ha=>k _ (h.cut rfl (by simp[qbR, *])) a (ha.kp [0,1,4]))
   refine qo (fun a ha=>k _ (h.cut rfl (by simp[qbR, *])) a (ha.kp [0,1,4]))
  refine yz 11<|ycf<|qo (fun a ha=>k _ (h.cut rfl (by simp[qbR, *])) a (ha.kp [0,1,4]))
 have j:Lim W H (qbR T):=(qfo hL)
 generalize q:(qbR T)=b at h j;have E:=j;have O:=E.all;refine qb4 ([(0,pX t),(1,rX (qa5 T r).1),(4,iX (qa5 T r).2)]) (fun u=>Sep w F u [qay t (qbD b (qa5 T r).2)]) (fun P m=>?_) (fun u h=>?_)
 ·refine ys ?_;obtain⟨Q,R,h⟩:=h.opn 0;refine zD [] h fun u h=>yd (uL 0 15) [] (.l (h.tc 0 2) (.q6 (b.cursor.x+(qa5 T r).2) (.l (h.tg 0) (.l (h.gw 0).1 .z))))<|yDe (nS ?_);refine yc (rL b.grid.w (b.cursor.x+(qa5 T r).2)) (fun d=>?_) fun d=>?_
  ·refine ysr<|yp 4 [] (.l (h.tc 0 88) .z)<|ye<|yc (rY b.wrap) (fun i=>?_) fun i=>?_
   ·refine ysr<|yq 4<|yo (zT 0 ({b with cursor:=(Cur.mk 0 b.cursor.y b.cursor.late b.cursor.sty)}:TS) h fun u h=>?_);refine ye<|q7<|yq 1 ?_;have G:Lim W H ({b with cursor:=(Cur.mk 0 b.cursor.y b.cursor.late b.cursor.sty)}:TS):={j with cu:=⟨⟨(show(0:Int)<=0 by omega),(show(0:Int)<W by omega)⟩,(show(0:Int)<=b.cursor.y by omega),(show(b.cursor.y:Int)<H by omega)⟩}
    refine yo (yQ (h.met 0 fun F hA hF=>qd1 hA (h.tb hg hT) G) fun u h=>?_);refine yE (fun a ha=>m _ (h.cut rfl (by simp only[qbD,d,i,↓reduceIte,Int.reduceEq,Int.reduceLT,Int.reduceLE,sB])) a (ha.kp [0,1,4]))
   refine q7<|yp 9 [] (.l (h.tc 0 2) (.q6 (b.cursor.x-1) .z))<|yo (zT 0 ({b with cursor:=(Cur.mk (b.cursor.x-1) b.cursor.y b.cursor.late b.cursor.sty)}:TS) h fun u h=>?_);refine yE (fun a ha=>m _ (h.cut rfl (by simp only[qbD,d,i,↓reduceIte,Int.reduceEq,Int.reduceLT,Int.reduceLE,sB])) a (ha.kp [0,1,4]))
  refine qo (fun a ha=>m _ (h.cut rfl (by simp only[qbD,d,↓reduceIte,Int.reduceEq,Int.reduceLT,Int.reduceLE,sB])) a (ha.kp [0,1,4]))
 have n:Lim W H (qbD b (qa5 T r).2):=(qhA j p)
 generalize s:(qbD b (qa5 T r).2)=f at h n;have I:=n;have S:=I.all;refine qb4 ([(0,pX t),(1,rX (qa5 T r).1),(4,iX (qa5 T r).2)]) (fun u=>Sep w F u [qay t (qc5 f (qa5 T r).2)]) (fun U v=>?_) (fun u h=>?_)
 ·refine ysr<|yp 4 [] (.l (h.tc 0 90) .z)<|ye<|yc (rY f.insert) (fun d=>?_) fun d=>?_
  ·obtain⟨V,X,h⟩:=h.opn 0;refine zD [20] h fun u h=>yd (uL 0 20) [] (.l (h.tg 0) (.l (h.tc 0 2) (.l (h.tc 0 3) (.a (h.ts 0 5 5) .z))))<|yK 20 (yQ (h.grd 0 fun _ hG=>qim _ _ _ (f.cursor.x) (f.cursor.y) ((qa5 T r).2) f.cursor.sty _ (h.tb hg hT) hG) fun u h=>?_);refine q8<|yDe (fun a ha=>v _ (h.cut rfl (by simp[qc5, *])) a (ha.kp [0,1,4]))
  refine qo (fun a ha=>v _ (h.cut rfl (by simp[qc5, *])) a (ha.kp [0,1,4]))
 have o:Lim W H (qc5 f (qa5 T r).2):=(qhB n _)
 generalize A:(qc5 f (qa5 T r).2)=g at h o;have J:=o;have Y:=J.all;refine qb4 ([(0,pX t),(4,iX (qa5 T r).2)]) (fun u=>Sep w F u [qay t (qfJ g (qa5 T r).1)]) (fun Z K=>?_) (fun u h=>?_)
 ·obtain⟨a0,a1,h⟩:=h.opn 0;refine zD [21] h fun u h=>yd (uL 0 21) [] (.l (h.tg 0) (.l (h.tc 0 2) (.l (h.tc 0 3) (.a (h.ts 0 5 5) .z))))<|yK 21 (yQ (h.grd 0 fun _ hG=>put_any _ _ _ (g.cursor.x) (g.cursor.y) (Cel.mk (qa5 T r).1 g.cursor.sty) _ (h.tb hg hT) hG) fun u h=>?_);refine q8<|yDe (fun a ha=>K _ (h.cut rfl (by simp[qfJ, *])) a (ha.kp [0,4]))
 refine ysr ?_;have B:Lim W H (qfJ g (qa5 T r).1):=(qhC o _)
 generalize C:(qfJ g (qa5 T r).1)=c at h B;have L:=B;have a2:=L.all;refine yp 12 [] (.l (h.tc 0 2) (.q6 (c.cursor.x+(qa5 T r).2) .z))<|yo (zT 0 ({c with cursor:=(Cur.mk (c.cursor.x+(qa5 T r).2) c.cursor.y c.cursor.late c.cursor.sty)}:TS) h fun u h=>?_);refine yq 16<|yo (zT 0 ({c with cursor:=(Cur.mk (c.cursor.x+(qa5 T r).2) c.cursor.y false c.cursor.sty)}:TS) h fun u h=>?_);refine ye<|ys ?_;obtain⟨a3,a4,h⟩:=h.opn 0;refine zD [] h fun u h=>yd (uL 0 13) [] (.l (h.tc 0 2) (.l (h.tg 0) (.l (h.gw 0).1 .z)))<|yDe (nS ?_);refine yc (rE (c.cursor.x+(qa5 T r).2) c.grid.w) (fun d=>?_) fun d=>?_
 ·refine zD [17,21] h fun u h=>yd (uL 0 17) [] (.l (h.tg 0) (.l (h.gw 0).1 (.q6 (c.grid.w-1) (.l (h.tc 0 88) .z))))<|yK 17 (zT 0 ({c with cursor:=(Cur.mk (c.grid.w-1) c.cursor.y false c.cursor.sty)}:TS) h fun u h=>?_);refine q8<|yd (uL 18 3) [] .z<|yK 21 (zT 0 ({c with cursor:=(Cur.mk (c.grid.w-1) c.cursor.y c.wrap c.cursor.sty)}:TS) h fun u h=>?_);refine q8<|yDe (qW ?_);subst C;subst A;subst s;subst q;refine h.tfin hg ?_;simp[qeH,qgr, *]
 refine qo (qW ?_);subst C;subst A;subst s;subst q;refine h.tfin hg ?_;simp only[qeH,qgr,d,↓reduceIte,Int.reduceEq,Int.reduceLT,Int.reduceLE,sB]
end Go.Proofs.YtjjcnhgpccancaaGreatDoor.X
