import Derived.StillTailTactics
import Derived.BigRegion
import Derived.Test.YtpaidaphacoblaaGreatDoorK9
import Derived.Test.YtpaidaphacoblaaGreatDoorK18
set_option linter.all false
set_option maxRecDepth 100000
set_option maxHeartbeats 0
namespace Go.Proofs.YtpaidaphacoblaaGreatDoor
open Go.Value renaming int→B,slice→D
open Go.IntKind renaming i64→C
open Go.RowKit _root_.Go.Proofs.Tryz
variable {b g p size:Nat} {w wx:World} {cs:Array Value} {t:TypeId} {v:Value}
def yj(b:UInt8)(how:Int):UInt8:=if how=1 then 63 else if b=48 then 49 else 48
def sj(l:List UInt8)(k:Int)(how:Int):List UInt8:=if 0<=k/\k<l.length then l.set k.toNat (yj (l.getD k.toNat 0) how) else l
theorem Gp(l:List UInt8)(k how:Int):(sj l k how).length=l.length:=by unfold sj;split<;>simp
theorem IR{l:List UInt8}{k:Nat}{x:UInt8}(how:Int)(h:l[k]?=some x):sj l (k:Int) how=l.take k++[yj x how]++l.drop (k+1):=by have hk:=(zY.1 h).1;unfold sj;rw[if_pos (by omega),yC,xU,h,Option.getD_some,List.set_eq_take_append_cons_drop,if_pos hk];simp
theorem BI{l:List UInt8}{k:Int}(how:Int)(h:¬(0<=k/\k<l.length)):sj l k how=l:=by unfold sj;rw[if_neg h]
theorem ub{s:ByteArray}{k:Nat}(hk:k<s.size)(b:UInt8):bl (s.extract 0 k++⟨#[b]⟩++s.extract (k+1) s.size)=(bl s).take k++[b]++(bl s).drop (k+1):=by rw[pj,pj,sJ,lF];rfl
theorem Cz(s:ByteArray)(at_ how:Int)(w:World)(hs:s.size<=1000000) :
  Calls prog 127 #[.string s,B C at_,B C how] w fun e w'=>∃t,e=.returned (.string t)/\bl t=sj (bl s) at_ how/\ab w w':=by
 by_cases h0:0<=at_
 ·obtain⟨k,rfl⟩:=zG h0;clear h0;by_cases hk:k<s.size
  ·have HC:Bx (sj (bl s) (k:Int) how=(bl s).take k++[yj s[k] how]++(bl s).drop (k+1)):=⟨IR how (nJ hk)⟩
   have e1:IntKind.i64.wrap ((k:Int)+1)=(k:Int)+1:=yN _ (by omega);have e2:((k:Int)+1).toNat=k+1:=by omega
   have s1:(s.extract 0 k).size<=1000000:=by rw[<-aO,sJ,yW,aO];omega
   have s2:(s.extract (k+1) s.size).size<=1000000:=by rw[<-aO,lF,wD,aO];omega
   have d1:decide ((k:Int)<0)=false:=by simp
   have d2:decide ((s.size:Int)<=(k:Int))=false:=by simp;omega
   have d3:(0:Int)<=(k:Int)+1:=by omega
   have d4:(k:Int)+1<=(s.size:Int):=by omega
   by_cases hh:how=1
   ·subst hh;have HB:Bx (yj s[k] 1=63):=⟨rfl⟩
    by_cases h48:(s[k].toNat:Int)=48
    ·go_enter func127,ntmps127
     go_wp2_with fail;go_quiet (fail)
     go_wp2_with fail;go_ret
     exact⟨_,rfl,by rw[ub hk,HC.out,HB.out],(zE _).drewN _⟩
    ·go_enter func127,ntmps127
     go_wp2_with fail;go_quiet (fail)
     go_wp2_with fail;go_ret
     exact⟨_,rfl,by rw[ub hk,HC.out,HB.out],(zE _).drewN _⟩
   ·have q1:(how==1)=false:=beq_eq_false_iff_ne.2 hh;by_cases h48:(s[k].toNat:Int)=48
    ·have HB:Bx (yj s[k] how=49):=⟨by unfold yj;rw[if_neg hh,if_pos (UInt8.toNat_inj.1 (show s[k].toNat=(48:UInt8).toNat by simp;omega))]⟩
     clear hh;go_enter func127,ntmps127
     go_wp2_with fail;go_quiet (fail)
     go_wp2_with fail;go_ret
     exact⟨_,rfl,by rw[ub hk,HC.out,HB.out],(zE _).drewN _⟩
    ·have HB:Bx (yj s[k] how=48):=⟨by unfold yj;rw[if_neg hh,if_neg (fun e=>h48 (by rw[e];rfl))]⟩
     clear hh;go_enter func127,ntmps127
     go_wp2_with fail;go_quiet (fail)
     go_wp2_with fail;go_ret
     exact⟨_,rfl,by rw[ub hk,HC.out,HB.out],(zE _).drewN _⟩
  ·have HC:Bx (sj (bl s) (k:Int) how=bl s):=⟨BI how (by rw[aO];omega)⟩
   have d1:decide ((k:Int)<0)=false:=by simp
   have d2:decide ((s.size:Int)<=(k:Int))=true:=by simp;omega
   go_enter func127,ntmps127
   go_wp2_with fail;go_ret
   exact⟨_,rfl,HC.out.symm,zE _⟩
 ·have HC:Bx (sj (bl s) at_ how=bl s):=⟨BI how (by rw[aO];omega)⟩
  have d1:decide (at_<0)=true:=by simp;omega
  go_enter func127,ntmps127
  go_wp2_with fail;go_ret
  exact⟨_,rfl,HC.out.symm,zE _⟩
theorem C7(p:Nat)(s:ByteArray)(most:Int)(w:World)(h:bz w p)(hs:s.size<=1000)(hm:0<=most)(hm':most<=1000) :
  Calls prog 89 #[.pointer (some ⟨p,0,none⟩),.string s,B C most] w (iN p w fun v _=>∃t,v=.string t/\t.size<=s.size/\s.size<=t.size):=by
 have H:Bx (bz w p):=⟨h⟩
 clear h;go_enter func89,ntmps89
 go_wp2_with fail;refine (az p _ _ _ H.out (by omega) (by omega) (by omega) (by omega)).mono ?_;rintro e w1 ⟨v1,rfl,⟨r,rfl,hr1,hr2⟩,HT1,HX1⟩;obtain⟨r,rfl⟩:=zG hr1;have HB1:Bx (bz w1 p/\XT p w w1):=⟨⟨HT1,HX1⟩⟩
 clear HT1 HX1;go_wp2_with fail;go_loopw [1,7] (fun v i wr=>∃(k:Nat) (t:ByteArray),i=B C k/\k<=r/\v=.string t/\t.size<=s.size/\s.size<=t.size/\Bx (bz wr p/\XT p w wr)) (fun _ i _=>(intOf i).toNat)
 case atStart=>exact⟨r,s,rfl,zX _,rfl,zX _,zX _,HB1⟩
 case round =>
  obtain⟨k,t,rfl,hk,rfl,ht1,ht2,HB⟩:=hrel;clear HB1;by_cases hk0:0<k
  ·go_wp2_with fail;refine (am p _ _ HB.out.1 (by omega)).mono ?_;rintro e w2 ⟨v2,rfl,⟨a,rfl,ha1,ha2⟩,HT2,HX2⟩;go_wp2_with fail;refine (am p 2 _ HT2 (by omega)).mono ?_;rintro e w3 ⟨v3,rfl,⟨b,rfl,hb1,hb2⟩,HT3,HX3⟩;go_wp2_with fail;refine (Cz t a b _ (by omega)).mono ?_;rintro e w4 ⟨t4,rfl,ht4,hx4⟩;have hz:t4.size=t.size:=by rw[<-aO,ht4,Gp,aO]
   have hz1:t4.size<=s.size:=by omega
   have hz2:s.size<=t4.size:=by omega
   have HB4:Bx (bz w4 p/\XT p w w4):=⟨⟨HT3.ext hx4,((HB.out.2.trans HX2).trans HX3).ext hx4⟩⟩
   clear hz ht4 hx4 HT3 HX3 HT2 HX2 HB;go_wp2_with fail;go_roundw
   case rel=>exact⟨k-1,t4,by congr;omega,by omega,rfl,hz1,hz2,HB4⟩
   case measure=>simp[intOf];omega
  ·obtain rfl:k=0:=by omega
   go_wp2_with fail;go_ret
   exact⟨_,rfl,⟨t,rfl,ht1,ht2⟩,HB.out.1,HB.out.2⟩
def be(wx:World)(b:Nat):Nat->List Value->World
 |_,[]=>wx
 |i,v::vs=>be (wx.setCell ⟨b,i,none⟩ v) b (i+1) vs
def dJ(cs:Array Value):Nat->List Value->Array Value
 |_,[]=>cs
 |i,v::vs=>dJ (cs.setIfInBounds i v) (i+1) vs
theorem Fr.sets{L:BL}(h:Fr p w wx L)(k:Nat)(hk:L[k]?=some (b,cs,t))(i:Nat)(vs:List Value):Fr p w (be wx b i vs) (L.set k (b,dJ cs i vs,t)):=by
 induction vs generalizing wx cs L i with
 |nil =>
  obtain⟨hl,e⟩:=zY.1 hk;have:L.set k (b,cs,t)=L:=by rw[<-e];exact uM hl
  unfold be dJ;rw[this];exact h
 |cons v vs ih =>
  have h1:=h.set k hk i v;have hl:=(zY.1 hk).1;have h2:=ih h1 (by rw[wU hl]) (i+1);rw[List.set_set]at h2;exact h2
theorem aA.sets{L:BL}(h:aA w wx L)(k:Nat)(hk:L[k]?=some (b,cs,t))(i:Nat)(vs:List Value):aA w (be wx b i vs) (L.set k (b,dJ cs i vs,t)):=by
 induction vs generalizing wx cs L i with
 |nil =>
  obtain⟨hl,e⟩:=zY.1 hk;have:L.set k (b,cs,t)=L:=by rw[<-e];exact uM hl
  unfold be dJ;rw[this];exact h
 |cons v vs ih =>
  have h1:=h.set k hk i v;have hl:=(zY.1 hk).1;have h2:=ih h1 (by rw[wU hl]) (i+1);rw[List.set_set]at h2;exact h2
theorem nD:∀(vs:List Value) (cs:Array Value) (i k:Nat),(dJ cs i vs)[k]?=if i<=k/\k<i+vs.length/\k<cs.size then vs[k-i]? else cs[k]?
 |[],cs,i,k=>by rw[if_neg (by simp;omega)];rfl
 |v::vs,cs,i,k=>by
  unfold dJ;rw[nD vs,vV,uN,xQ];by_cases h:i=k
  ·subst h;rw[if_neg (by omega)];by_cases h2:i<cs.size
   ·rw[if_pos rfl,if_pos h2,if_pos (by omega)];simp
   ·rw[if_pos rfl,if_neg h2,if_neg (by omega)];exact (wY (by omega)).symm
  ·by_cases h2:i+1<=k/\k<i+1+vs.length/\k<cs.size
   ·rw[if_pos h2,if_pos (by omega),show k-i=(k-(i+1))+1 by omega];rfl
   ·rw[if_neg h2,if_neg h,if_neg (by omega)]
theorem tt{vs:List Value}(h:vs.length=cs.size):dJ cs 0 vs=vs.toArray:=by
 apply Array.ext_getElem?;intro k;rw[nD];by_cases h2:k<cs.size
 ·rw[if_pos (by omega)];simp
 ·rw[if_neg (by omega),wY (by omega)];exact (wY (by simp;omega)).symm
theorem Fr.setAll{L:BL}(h:Fr p w wx L)(k:Nat)(hk:L[k]?=some (b,cs,t))(vs:List Value)(hl:vs.length=cs.size):Fr p w (be wx b 0 vs) (L.set k (b,vs.toArray,t)):=by have:=h.sets k hk 0 vs;rwa [tt hl]at this
theorem aA.setAll{L:BL}(h:aA w wx L)(k:Nat)(hk:L[k]?=some (b,cs,t))(vs:List Value)(hl:vs.length=cs.size):aA w (be wx b 0 vs) (L.set k (b,vs.toArray,t)):=by have:=h.sets k hk 0 vs;rwa [tt hl]at this
theorem eZ{base:Nat}{ch:List Int}(h:fu wx base v ch)(hb:Bk wx b cs t)(ht:t≠3)(i:Nat)(vs:List Value):fu (be wx b i vs) base v ch:=by
 induction vs generalizing wx cs i with
 |nil=>exact h
 |cons u vs ih=>exact ih (h.far hb ht i u) (hb.set i u) (i+1)
def K5(base:Nat)(seq:Int)(v:Value)(w:World):Prop:=∃(t s ct:Int) (b:ByteArray) (A:Option Addr) (c:Nat) (ch:List Int),
 v=.agg #[B C t,B C s,B C seq,B C 1,.string b,B C ct,D A ch.length c,B C 0,B C 0,B C 0,B C 0,B C 0,B C 0] /\
 0<=t/\t<=24/\1<=s/\s<=2/\0<=ct/\ct<=2/\b.size<=1000/\fu w base (D A ch.length c) ch
theorem AK(p c g v:Int):(ym p c g v).length<=1000:=by
 unfold ym;split
 ·rw[ph (kK _ _ _ _)];omega
 ·simp
theorem nR(p:Nat)(v:Value)(s:dl)(l:cJ)(seq:Int)(w:World)(h:bz w p)(hs:aR p w v s)(hl:l.wf)(hq:aU seq) :
  Calls prog 48 #[.pointer (some ⟨p,0,none⟩),v,l.val,B C seq] w (iN p w (K5 w.heap.size seq)):=by
 have HS0:=hs;obtain⟨vP,vB,vX,rfl,hP,hB,hX,hnum⟩:=hs;obtain⟨AP,nP,cP,rfl,-⟩:=hP.open_;obtain⟨AB,nB,cB,rfl,-⟩:=hB.open_;obtain⟨AX,nX,cX,rfl,-⟩:=hX.open_;obtain⟨lp,lc,lg,lv⟩:=l;have HLW:Bx (cJ.wf ⟨lp,lc,lg,lv⟩):=⟨hl⟩
 have hlt:=h.lt;have hv:cJ.val ⟨lp,lc,lg,lv⟩=.agg #[B C lp,B C lc,B C lg,B C lv]:=rfl;rw[hv];obtain⟨w1,hw1⟩:=nm ((((w.alloc (.cells #[B C s.num,D AP nP cP,D AB nB cB,D AX nX cX] 29)).alloc (.cells #[B C lp,B C lc,B C lg,B C lv] 39)).alloc (.cells #[B C 0,B C 0,B C 0,B C 0,.string ⟨#[]⟩,B C 0,D none 0 0,B C 0,B C 0,B C 0,B C 0,B C 0,B C 0] 41)):World);have HF:Bx (Fr p w w1 [(w.heap.size,#[B C s.num,D AP nP cP,D AB nB cB,D AX nX cX],29),(w.heap.size+1,#[B C lp,B C lc,B C lg,B C lv],39),(w.heap.size+2,#[B C 0,B C 0,B C 0,B C 0,.string ⟨#[]⟩,B C 0,D none 0 0,B C 0,B C 0,B C 0,B C 0,B C 0,B C 0],41)]):=⟨by rw[hw1];exact (((Fr.start h).push _ _ rfl).push _ _ (by simp)).push _ _ (by simp)⟩
 have HSit:Bx (aR p w1 (.agg #[B C s.num,D AP nP cP,D AB nB cB,D AX nX cX]) s):=⟨by rw[hw1];exact HS0.ext ((((zE _).alloc _).alloc _).alloc _)⟩
 clear hv hl hP hB hX hnum HS0 h;obtain⟨l0,l1,l2,l3⟩:=(HF.out.at_ 1 rfl).p4 rfl;go_enter func48,ntmps48
 go_upto_region 1 with (fail)
 rw[<-hw1];clear hw1;go_wp2_with fail;refine (sX lp lc lg lv _).mono ?_;rintro e w2 ⟨b,k,rfl,-,hb,hx2⟩;have hbs:b.size<=1000:=by rw[<-aO,hb];exact AK _ _ _ _
 have HF2:=bx (HF.out.ext hx2);have HSit2:=bx (HSit.out.ext hx2);clear HF HSit hx2 hb l0 l1 l2 l3;go_upto_region 2 with (fail)
 go_cut [11] (fun s11 wx=>∃(g:Nat) (t s' ct:Int) (A:Option Addr) (n c:Nat) (ch:List Int),s11=.pointer (some ⟨g,0,none⟩)/\0<=t/\t<=24/\1<=s'/\s'<=2/\0<=ct/\ct<=2/\Bx (fu wx w.heap.size (D A n c) ch/\Fr p w wx [(w.heap.size,#[B C s.num,D AP nP cP,D AB nB cB,D AX nX cX],29),(w.heap.size+1,#[B C lp,B C lc,B C lg,B C lv],39),(w.heap.size+2,#[B C 0,B C 0,B C 0,B C 0,.string ⟨#[]⟩,B C 0,D none 0 0,B C 0,B C 0,B C 0,B C 0,B C 0,B C 0],41),(g,#[B C t,B C s',B C seq,B C 1,.string b,B C ct,D A n c,B C 0,B C 0,B C 0,B C 0,B C 0,B C 0],41)]))
 case first =>
  refine zR 15 (fun w'=>w'.cell? ⟨w.heap.size,0,none⟩=some (B C s.num)/\w'.cell? ⟨w.heap.size,1,none⟩=some (D AP nP cP)/\w'.cell? ⟨w.heap.size,2,none⟩=some (D AB nB cB)/\w'.cell? ⟨w.heap.size,3,none⟩=some (D AX nX cX)/\w'.cell? ⟨w.heap.size+1,0,none⟩=some (B C lp)/\w'.cell? ⟨w.heap.size+1,1,none⟩=some (B C lc)/\w'.cell? ⟨w.heap.size+1,2,none⟩=some (B C lg)/\w'.cell? ⟨w.heap.size+1,3,none⟩=some (B C lv)) ?_;obtain⟨wd,hwd⟩:=nm (w2.drew:World);have hxd:ab w2 wd:=by rw[hwd];exact (zE _).drew
  have HF0:=bx (HF2.out.ext hxd);have HI0:=bx (HSit2.out.ext hxd);rw[<-hwd];clear hwd hxd;have kS0:wd.cell? ⟨w.heap.size,0,none⟩=some (B C s.num)/\wd.cell? ⟨w.heap.size,1,none⟩=some (D AP nP cP)/\wd.cell? ⟨w.heap.size,2,none⟩=some (D AB nB cB)/\wd.cell? ⟨w.heap.size,3,none⟩=some (D AX nX cX)/\wd.cell? ⟨w.heap.size+1,0,none⟩=some (B C lp)/\wd.cell? ⟨w.heap.size+1,1,none⟩=some (B C lc)/\wd.cell? ⟨w.heap.size+1,2,none⟩=some (B C lg)/\wd.cell? ⟨w.heap.size+1,3,none⟩=some (B C lv):=⟨(HF0.out.at_ 0 rfl).c 0 rfl,(HF0.out.at_ 0 rfl).c 1 rfl,(HF0.out.at_ 0 rfl).c 2 rfl,(HF0.out.at_ 0 rfl).c 3 rfl,(HF0.out.at_ 1 rfl).c 0 rfl,(HF0.out.at_ 1 rfl).c 1 rfl,(HF0.out.at_ 1 rfl).c 2 rfl,(HF0.out.at_ 1 rfl).c 3 rfl⟩
  refine zS 8 [(0,17),(2,19),(4,21),(6,23),(7,24),(9,26),(10,27),(11,28)] kS0 ?_;iterate 8 refine zT ?_
  refine zN (an 1 14 (by kernel_rfl) rfl rfl (fun K hK=>?_) (fun K hK=>?_))
  ·go_simp;refine (az p 0 24 _ HF0.out.tp (by omega) (by omega) (by omega) (by omega)).mono ?_;rintro e wq1 ⟨v1,rfl,⟨t,rfl,ht1,ht2⟩,HT1,HX1⟩;have HF1:=bx (HF0.out.step HX1 HT1);have HI1:=bx (HI0.out.xt HX1);have kS1:wq1.cell? ⟨w.heap.size,0,none⟩=some (B C s.num)/\wq1.cell? ⟨w.heap.size,1,none⟩=some (D AP nP cP)/\wq1.cell? ⟨w.heap.size,2,none⟩=some (D AB nB cB)/\wq1.cell? ⟨w.heap.size,3,none⟩=some (D AX nX cX)/\wq1.cell? ⟨w.heap.size+1,0,none⟩=some (B C lp)/\wq1.cell? ⟨w.heap.size+1,1,none⟩=some (B C lc)/\wq1.cell? ⟨w.heap.size+1,2,none⟩=some (B C lg)/\wq1.cell? ⟨w.heap.size+1,3,none⟩=some (B C lv):=⟨(HF1.out.at_ 0 rfl).c 0 rfl,(HF1.out.at_ 0 rfl).c 1 rfl,(HF1.out.at_ 0 rfl).c 2 rfl,(HF1.out.at_ 0 rfl).c 3 rfl,(HF1.out.at_ 1 rfl).c 0 rfl,(HF1.out.at_ 1 rfl).c 1 rfl,(HF1.out.at_ 1 rfl).c 2 rfl,(HF1.out.at_ 1 rfl).c 3 rfl⟩
   clear HF0 HI0 kS0 HX1 HT1;refine hK.out _ _ (fun _=>(kS1)) ?_;clear hK K;try simp only[kA]
   refine an 3 14 (by kernel_rfl) rfl rfl (fun K hK=>?_) (fun K hK=>?_)
   ·go_simp;refine (az p 1 2 _ HF1.out.tp (by omega) (by omega) (by omega) (by omega)).mono ?_;rintro e wq2 ⟨v2,rfl,⟨s',rfl,hs1,hs2⟩,HT2,HX2⟩;have HF2:=bx (HF1.out.step HX2 HT2);have HI2:=bx (HI1.out.xt HX2);have kS2:wq2.cell? ⟨w.heap.size,0,none⟩=some (B C s.num)/\wq2.cell? ⟨w.heap.size,1,none⟩=some (D AP nP cP)/\wq2.cell? ⟨w.heap.size,2,none⟩=some (D AB nB cB)/\wq2.cell? ⟨w.heap.size,3,none⟩=some (D AX nX cX)/\wq2.cell? ⟨w.heap.size+1,0,none⟩=some (B C lp)/\wq2.cell? ⟨w.heap.size+1,1,none⟩=some (B C lc)/\wq2.cell? ⟨w.heap.size+1,2,none⟩=some (B C lg)/\wq2.cell? ⟨w.heap.size+1,3,none⟩=some (B C lv):=⟨(HF2.out.at_ 0 rfl).c 0 rfl,(HF2.out.at_ 0 rfl).c 1 rfl,(HF2.out.at_ 0 rfl).c 2 rfl,(HF2.out.at_ 0 rfl).c 3 rfl,(HF2.out.at_ 1 rfl).c 0 rfl,(HF2.out.at_ 1 rfl).c 1 rfl,(HF2.out.at_ 1 rfl).c 2 rfl,(HF2.out.at_ 1 rfl).c 3 rfl⟩
    clear HF1 HI1 kS1 HX2 HT2;refine hK.out _ _ (fun _=>(kS2)) ?_;clear hK K;try simp only[kA]
    refine zS 1 [(5,22)] kS2 ?_;refine zT ?_;refine zN (an 8 14 (by kernel_rfl) rfl rfl (fun K hK=>?_) (fun K hK=>?_))
    ·go_simp;refine (am p 3 _ HF2.out.tp (by omega)).mono ?_;rintro e wq3 ⟨v3,rfl,⟨ct,rfl,hc1,hc2⟩,HT3,HX3⟩;have HF3:=bx (HF2.out.step HX3 HT3);have HI3:=bx (HI2.out.xt HX3);have kS3:wq3.cell? ⟨w.heap.size,0,none⟩=some (B C s.num)/\wq3.cell? ⟨w.heap.size,1,none⟩=some (D AP nP cP)/\wq3.cell? ⟨w.heap.size,2,none⟩=some (D AB nB cB)/\wq3.cell? ⟨w.heap.size,3,none⟩=some (D AX nX cX)/\wq3.cell? ⟨w.heap.size+1,0,none⟩=some (B C lp)/\wq3.cell? ⟨w.heap.size+1,1,none⟩=some (B C lc)/\wq3.cell? ⟨w.heap.size+1,2,none⟩=some (B C lg)/\wq3.cell? ⟨w.heap.size+1,3,none⟩=some (B C lv):=⟨(HF3.out.at_ 0 rfl).c 0 rfl,(HF3.out.at_ 0 rfl).c 1 rfl,(HF3.out.at_ 0 rfl).c 2 rfl,(HF3.out.at_ 0 rfl).c 3 rfl,(HF3.out.at_ 1 rfl).c 0 rfl,(HF3.out.at_ 1 rfl).c 1 rfl,(HF3.out.at_ 1 rfl).c 2 rfl,(HF3.out.at_ 1 rfl).c 3 rfl⟩
     clear HF2 HI2 kS2 HX3 HT3;refine hK.out _ _ (fun _=>(kS3)) ?_;clear hK K;try simp only[kA]
     refine an 12 14 (by kernel_rfl) rfl rfl (fun K hK=>?_) (fun K hK=>?_)
     ·go_simp;refine (fJ p _ s ⟨lp,lc,lg,lv⟩ _ HF3.out.tp HI3.out HLW.out).mono ?_;rintro e wq4 ⟨v4,rfl,⟨ch,hch4⟩,HT4,HX4⟩;obtain⟨A,c,rfl⟩:=hch4.form;have HC4:Bx (fu wq4 w.heap.size (D A ch.length c) ch):=⟨hch4.base_ (by have:=HF3.out.xt.size;omega)⟩
      clear hch4;have HF4:=bx (HF3.out.step HX4 HT4);have HI4:=bx (HI3.out.xt HX4);have kS4:wq4.cell? ⟨w.heap.size,0,none⟩=some (B C s.num)/\wq4.cell? ⟨w.heap.size,1,none⟩=some (D AP nP cP)/\wq4.cell? ⟨w.heap.size,2,none⟩=some (D AB nB cB)/\wq4.cell? ⟨w.heap.size,3,none⟩=some (D AX nX cX)/\wq4.cell? ⟨w.heap.size+1,0,none⟩=some (B C lp)/\wq4.cell? ⟨w.heap.size+1,1,none⟩=some (B C lc)/\wq4.cell? ⟨w.heap.size+1,2,none⟩=some (B C lg)/\wq4.cell? ⟨w.heap.size+1,3,none⟩=some (B C lv):=⟨(HF4.out.at_ 0 rfl).c 0 rfl,(HF4.out.at_ 0 rfl).c 1 rfl,(HF4.out.at_ 0 rfl).c 2 rfl,(HF4.out.at_ 0 rfl).c 3 rfl,(HF4.out.at_ 1 rfl).c 0 rfl,(HF4.out.at_ 1 rfl).c 1 rfl,(HF4.out.at_ 1 rfl).c 2 rfl,(HF4.out.at_ 1 rfl).c 3 rfl⟩
      clear HF3 HI3 kS3 HX4 HT4;refine hK.out _ _ (fun _=>(kS4)) ?_;clear hK K;try simp only[kA]
      refine zS 1 [(13,30)] kS4 ?_;refine zT ?_;refine zN (zO 14 (fun K hK=>?_));go_simp;obtain⟨wq5,hwq5⟩:=nm ((wq4.alloc (.cells #[B C 0,B C 0,B C 0,B C 0,.string ⟨#[]⟩,B C 0,D none 0 0,B C 0,B C 0,B C 0,B C 0,B C 0,B C 0] 41)):World);have hx5:ab wq4 wq5:=by rw[hwq5];exact (zE _).alloc _
      obtain⟨g5,hg5⟩:=nm wq4.heap.size;have HF5:Bx (Fr p w wq5 [(w.heap.size,#[B C s.num,D AP nP cP,D AB nB cB,D AX nX cX],29),(w.heap.size+1,#[B C lp,B C lc,B C lg,B C lv],39),(w.heap.size+2,#[B C 0,B C 0,B C 0,B C 0,.string ⟨#[]⟩,B C 0,D none 0 0,B C 0,B C 0,B C 0,B C 0,B C 0,B C 0],41),(g5,#[B C 0,B C 0,B C 0,B C 0,.string ⟨#[]⟩,B C 0,D none 0 0,B C 0,B C 0,B C 0,B C 0,B C 0,B C 0],41)]):=⟨by rw[hwq5];exact HF4.out.push _ _ hg5.symm⟩
      have HI5:=bx (HI4.out.ext hx5);have HC5:=bx (HC4.out.ext hx5);rw[<-hwq5,<-hg5];clear hwq5 hg5 hx5;have kS5:wq5.cell? ⟨w.heap.size,0,none⟩=some (B C s.num)/\wq5.cell? ⟨w.heap.size,1,none⟩=some (D AP nP cP)/\wq5.cell? ⟨w.heap.size,2,none⟩=some (D AB nB cB)/\wq5.cell? ⟨w.heap.size,3,none⟩=some (D AX nX cX)/\wq5.cell? ⟨w.heap.size+1,0,none⟩=some (B C lp)/\wq5.cell? ⟨w.heap.size+1,1,none⟩=some (B C lc)/\wq5.cell? ⟨w.heap.size+1,2,none⟩=some (B C lg)/\wq5.cell? ⟨w.heap.size+1,3,none⟩=some (B C lv):=⟨(HF5.out.at_ 0 rfl).c 0 rfl,(HF5.out.at_ 0 rfl).c 1 rfl,(HF5.out.at_ 0 rfl).c 2 rfl,(HF5.out.at_ 0 rfl).c 3 rfl,(HF5.out.at_ 1 rfl).c 0 rfl,(HF5.out.at_ 1 rfl).c 1 rfl,(HF5.out.at_ 1 rfl).c 2 rfl,(HF5.out.at_ 1 rfl).c 3 rfl⟩
      clear HF4 HI4 HC4 kS4;refine hK.out _ _ (fun _=>(kS5)) ?_;clear hK K;try simp only[kA]
      refine zO 15 (fun K hK=>?_);obtain⟨z0,z1,z2,z3,z4,z5,z6,z7,z8,z9,z10,z11,z12⟩:=(HF5.out.at_ 3 rfl).p13 rfl;have f0:=(HF5.out.at_ 3 rfl).froz;have f1:=f0;have f2:=f0;have f3:=f0;have f4:=f0;have f5:=f0;have f6:=f0;have f7:=f0;have f8:=f0;have f9:=f0;have f10:=f0;have f11:=f0;have f12:=f0;go_simp;refine hK.out _ _ (fun h=>absurd rfl h) ?_;clear hK K;refine zD ?_;go_wp2_with fail;go_meet
      exact⟨g5,t,s',ct,A,ch.length,c,ch,rfl,ht1,ht2,hs1,hs2,hc1,by omega,⟨(eZ HC5.out (HF5.out.at_ 3 rfl) (by decide) 0 [B C t,B C s',B C seq,B C 1,.string b,B C ct,D A ch.length c,B C 0,B C 0,B C 0,B C 0,B C 0,B C 0]),HF5.out.setAll 3 rfl [B C t,B C s',B C seq,B C 1,.string b,B C ct,D A ch.length c,B C 0,B C 0,B C 0,B C 0,B C 0,B C 0] rfl⟩⟩
     ·go_simp;obtain⟨wq6,hwq6⟩:=nm ((wq3.alloc (.cells #[B C 0,B C 0,B C 0,B C 0,.string ⟨#[]⟩,B C 0,D none 0 0,B C 0,B C 0,B C 0,B C 0,B C 0,B C 0] 41)):World);have hx6:ab wq3 wq6:=by rw[hwq6];exact (zE _).alloc _
      obtain⟨g6,hg6⟩:=nm wq3.heap.size;have HF6:Bx (Fr p w wq6 [(w.heap.size,#[B C s.num,D AP nP cP,D AB nB cB,D AX nX cX],29),(w.heap.size+1,#[B C lp,B C lc,B C lg,B C lv],39),(w.heap.size+2,#[B C 0,B C 0,B C 0,B C 0,.string ⟨#[]⟩,B C 0,D none 0 0,B C 0,B C 0,B C 0,B C 0,B C 0,B C 0],41),(g6,#[B C 0,B C 0,B C 0,B C 0,.string ⟨#[]⟩,B C 0,D none 0 0,B C 0,B C 0,B C 0,B C 0,B C 0,B C 0],41)]):=⟨by rw[hwq6];exact HF3.out.push _ _ hg6.symm⟩
      have HI6:=bx (HI3.out.ext hx6);rw[<-hwq6,<-hg6];clear hwq6 hg6 hx6;have kS6:wq6.cell? ⟨w.heap.size,0,none⟩=some (B C s.num)/\wq6.cell? ⟨w.heap.size,1,none⟩=some (D AP nP cP)/\wq6.cell? ⟨w.heap.size,2,none⟩=some (D AB nB cB)/\wq6.cell? ⟨w.heap.size,3,none⟩=some (D AX nX cX)/\wq6.cell? ⟨w.heap.size+1,0,none⟩=some (B C lp)/\wq6.cell? ⟨w.heap.size+1,1,none⟩=some (B C lc)/\wq6.cell? ⟨w.heap.size+1,2,none⟩=some (B C lg)/\wq6.cell? ⟨w.heap.size+1,3,none⟩=some (B C lv):=⟨(HF6.out.at_ 0 rfl).c 0 rfl,(HF6.out.at_ 0 rfl).c 1 rfl,(HF6.out.at_ 0 rfl).c 2 rfl,(HF6.out.at_ 0 rfl).c 3 rfl,(HF6.out.at_ 1 rfl).c 0 rfl,(HF6.out.at_ 1 rfl).c 1 rfl,(HF6.out.at_ 1 rfl).c 2 rfl,(HF6.out.at_ 1 rfl).c 3 rfl⟩
      clear HF3 HI3 kS3;refine hK.out _ _ (fun _=>(kS6)) ?_;clear hK K;try simp only[kA]
      refine zO 12 (fun K hK=>?_);go_simp;refine (fJ p _ s ⟨lp,lc,lg,lv⟩ _ HF6.out.tp HI6.out HLW.out).mono ?_;rintro e wq7 ⟨v7,rfl,⟨ch,hch7⟩,HT7,HX7⟩;obtain⟨A,c,rfl⟩:=hch7.form;have HC7:Bx (fu wq7 w.heap.size (D A ch.length c) ch):=⟨hch7.base_ (by have:=HF6.out.xt.size;omega)⟩
      clear hch7;have HI7:=bx (HI6.out.xt HX7);have HF7:=bx (HF6.out.step HX7 HT7);have kS7:wq7.cell? ⟨w.heap.size,0,none⟩=some (B C s.num)/\wq7.cell? ⟨w.heap.size,1,none⟩=some (D AP nP cP)/\wq7.cell? ⟨w.heap.size,2,none⟩=some (D AB nB cB)/\wq7.cell? ⟨w.heap.size,3,none⟩=some (D AX nX cX)/\wq7.cell? ⟨w.heap.size+1,0,none⟩=some (B C lp)/\wq7.cell? ⟨w.heap.size+1,1,none⟩=some (B C lc)/\wq7.cell? ⟨w.heap.size+1,2,none⟩=some (B C lg)/\wq7.cell? ⟨w.heap.size+1,3,none⟩=some (B C lv):=⟨(HF7.out.at_ 0 rfl).c 0 rfl,(HF7.out.at_ 0 rfl).c 1 rfl,(HF7.out.at_ 0 rfl).c 2 rfl,(HF7.out.at_ 0 rfl).c 3 rfl,(HF7.out.at_ 1 rfl).c 0 rfl,(HF7.out.at_ 1 rfl).c 1 rfl,(HF7.out.at_ 1 rfl).c 2 rfl,(HF7.out.at_ 1 rfl).c 3 rfl⟩
      clear HI6 HF6 kS6 HX7 HT7;refine hK.out _ _ (fun _=>(kS7)) ?_;clear hK K;try simp only[kA]
      refine zS 1 [(13,30)] kS7 ?_;refine zT ?_;refine zN (zO 15 (fun K hK=>?_));obtain⟨z0,z1,z2,z3,z4,z5,z6,z7,z8,z9,z10,z11,z12⟩:=(HF7.out.at_ 3 rfl).p13 rfl;have f0:=(HF7.out.at_ 3 rfl).froz;have f1:=f0;have f2:=f0;have f3:=f0;have f4:=f0;have f5:=f0;have f6:=f0;have f7:=f0;have f8:=f0;have f9:=f0;have f10:=f0;have f11:=f0;have f12:=f0;go_simp;refine hK.out _ _ (fun h=>absurd rfl h) ?_;clear hK K;refine zD ?_;go_wp2_with fail;go_meet
      exact⟨g6,t,s',ct,A,ch.length,c,ch,rfl,ht1,ht2,hs1,hs2,hc1,by omega,⟨(eZ HC7.out (HF7.out.at_ 3 rfl) (by decide) 0 [B C t,B C s',B C seq,B C 1,.string b,B C ct,D A ch.length c,B C 0,B C 0,B C 0,B C 0,B C 0,B C 0]),HF7.out.setAll 3 rfl [B C t,B C s',B C seq,B C 1,.string b,B C ct,D A ch.length c,B C 0,B C 0,B C 0,B C 0,B C 0,B C 0] rfl⟩⟩
    ·go_simp;obtain⟨wq8,hwq8⟩:=nm ((wq2.alloc (.cells #[B C 0,B C 0,B C 0,B C 0,.string ⟨#[]⟩,B C 0,D none 0 0,B C 0,B C 0,B C 0,B C 0,B C 0,B C 0] 41)):World);have hx8:ab wq2 wq8:=by rw[hwq8];exact (zE _).alloc _
     obtain⟨g8,hg8⟩:=nm wq2.heap.size;have HF8:Bx (Fr p w wq8 [(w.heap.size,#[B C s.num,D AP nP cP,D AB nB cB,D AX nX cX],29),(w.heap.size+1,#[B C lp,B C lc,B C lg,B C lv],39),(w.heap.size+2,#[B C 0,B C 0,B C 0,B C 0,.string ⟨#[]⟩,B C 0,D none 0 0,B C 0,B C 0,B C 0,B C 0,B C 0,B C 0],41),(g8,#[B C 0,B C 0,B C 0,B C 0,.string ⟨#[]⟩,B C 0,D none 0 0,B C 0,B C 0,B C 0,B C 0,B C 0,B C 0],41)]):=⟨by rw[hwq8];exact HF2.out.push _ _ hg8.symm⟩
     have HI8:=bx (HI2.out.ext hx8);rw[<-hwq8,<-hg8];clear hwq8 hg8 hx8;have kS8:wq8.cell? ⟨w.heap.size,0,none⟩=some (B C s.num)/\wq8.cell? ⟨w.heap.size,1,none⟩=some (D AP nP cP)/\wq8.cell? ⟨w.heap.size,2,none⟩=some (D AB nB cB)/\wq8.cell? ⟨w.heap.size,3,none⟩=some (D AX nX cX)/\wq8.cell? ⟨w.heap.size+1,0,none⟩=some (B C lp)/\wq8.cell? ⟨w.heap.size+1,1,none⟩=some (B C lc)/\wq8.cell? ⟨w.heap.size+1,2,none⟩=some (B C lg)/\wq8.cell? ⟨w.heap.size+1,3,none⟩=some (B C lv):=⟨(HF8.out.at_ 0 rfl).c 0 rfl,(HF8.out.at_ 0 rfl).c 1 rfl,(HF8.out.at_ 0 rfl).c 2 rfl,(HF8.out.at_ 0 rfl).c 3 rfl,(HF8.out.at_ 1 rfl).c 0 rfl,(HF8.out.at_ 1 rfl).c 1 rfl,(HF8.out.at_ 1 rfl).c 2 rfl,(HF8.out.at_ 1 rfl).c 3 rfl⟩
     clear HF2 HI2 kS2;refine hK.out _ _ (fun _=>(kS8)) ?_;clear hK K;try simp only[kA]
     refine zO 8 (fun K hK=>?_);go_simp;refine (am p 3 _ HF8.out.tp (by omega)).mono ?_;rintro e wq9 ⟨v9,rfl,⟨ct,rfl,hc1,hc2⟩,HT9,HX9⟩;have HI9:=bx (HI8.out.xt HX9);have HF9:=bx (HF8.out.step HX9 HT9);have kS9:wq9.cell? ⟨w.heap.size,0,none⟩=some (B C s.num)/\wq9.cell? ⟨w.heap.size,1,none⟩=some (D AP nP cP)/\wq9.cell? ⟨w.heap.size,2,none⟩=some (D AB nB cB)/\wq9.cell? ⟨w.heap.size,3,none⟩=some (D AX nX cX)/\wq9.cell? ⟨w.heap.size+1,0,none⟩=some (B C lp)/\wq9.cell? ⟨w.heap.size+1,1,none⟩=some (B C lc)/\wq9.cell? ⟨w.heap.size+1,2,none⟩=some (B C lg)/\wq9.cell? ⟨w.heap.size+1,3,none⟩=some (B C lv):=⟨(HF9.out.at_ 0 rfl).c 0 rfl,(HF9.out.at_ 0 rfl).c 1 rfl,(HF9.out.at_ 0 rfl).c 2 rfl,(HF9.out.at_ 0 rfl).c 3 rfl,(HF9.out.at_ 1 rfl).c 0 rfl,(HF9.out.at_ 1 rfl).c 1 rfl,(HF9.out.at_ 1 rfl).c 2 rfl,(HF9.out.at_ 1 rfl).c 3 rfl⟩
     clear HI8 HF8 kS8 HX9 HT9;refine hK.out _ _ (fun _=>(kS9)) ?_;clear hK K;try simp only[kA]
     refine zO 12 (fun K hK=>?_);go_simp;refine (fJ p _ s ⟨lp,lc,lg,lv⟩ _ HF9.out.tp HI9.out HLW.out).mono ?_;rintro e wq10 ⟨v10,rfl,⟨ch,hch10⟩,HT10,HX10⟩;obtain⟨A,c,rfl⟩:=hch10.form;have HC10:Bx (fu wq10 w.heap.size (D A ch.length c) ch):=⟨hch10.base_ (by have:=HF9.out.xt.size;omega)⟩
     clear hch10;have HI10:=bx (HI9.out.xt HX10);have HF10:=bx (HF9.out.step HX10 HT10);have kS10:wq10.cell? ⟨w.heap.size,0,none⟩=some (B C s.num)/\wq10.cell? ⟨w.heap.size,1,none⟩=some (D AP nP cP)/\wq10.cell? ⟨w.heap.size,2,none⟩=some (D AB nB cB)/\wq10.cell? ⟨w.heap.size,3,none⟩=some (D AX nX cX)/\wq10.cell? ⟨w.heap.size+1,0,none⟩=some (B C lp)/\wq10.cell? ⟨w.heap.size+1,1,none⟩=some (B C lc)/\wq10.cell? ⟨w.heap.size+1,2,none⟩=some (B C lg)/\wq10.cell? ⟨w.heap.size+1,3,none⟩=some (B C lv):=⟨(HF10.out.at_ 0 rfl).c 0 rfl,(HF10.out.at_ 0 rfl).c 1 rfl,(HF10.out.at_ 0 rfl).c 2 rfl,(HF10.out.at_ 0 rfl).c 3 rfl,(HF10.out.at_ 1 rfl).c 0 rfl,(HF10.out.at_ 1 rfl).c 1 rfl,(HF10.out.at_ 1 rfl).c 2 rfl,(HF10.out.at_ 1 rfl).c 3 rfl⟩
     clear HI9 HF9 kS9 HX10 HT10;refine hK.out _ _ (fun _=>(kS10)) ?_;clear hK K;try simp only[kA]
     refine zS 1 [(13,30)] kS10 ?_;refine zT ?_;refine zN (zO 15 (fun K hK=>?_));obtain⟨z0,z1,z2,z3,z4,z5,z6,z7,z8,z9,z10,z11,z12⟩:=(HF10.out.at_ 3 rfl).p13 rfl;have f0:=(HF10.out.at_ 3 rfl).froz;have f1:=f0;have f2:=f0;have f3:=f0;have f4:=f0;have f5:=f0;have f6:=f0;have f7:=f0;have f8:=f0;have f9:=f0;have f10:=f0;have f11:=f0;have f12:=f0;go_simp;refine hK.out _ _ (fun h=>absurd rfl h) ?_;clear hK K;refine zD ?_;go_wp2_with fail;go_meet
     exact⟨g8,t,s',ct,A,ch.length,c,ch,rfl,ht1,ht2,hs1,hs2,hc1,by omega,⟨(eZ HC10.out (HF10.out.at_ 3 rfl) (by decide) 0 [B C t,B C s',B C seq,B C 1,.string b,B C ct,D A ch.length c,B C 0,B C 0,B C 0,B C 0,B C 0,B C 0]),HF10.out.setAll 3 rfl [B C t,B C s',B C seq,B C 1,.string b,B C ct,D A ch.length c,B C 0,B C 0,B C 0,B C 0,B C 0,B C 0] rfl⟩⟩
   ·go_simp;obtain⟨wq11,hwq11⟩:=nm ((wq1.alloc (.cells #[B C 0,B C 0,B C 0,B C 0,.string ⟨#[]⟩,B C 0,D none 0 0,B C 0,B C 0,B C 0,B C 0,B C 0,B C 0] 41)):World);have hx11:ab wq1 wq11:=by rw[hwq11];exact (zE _).alloc _
    obtain⟨g11,hg11⟩:=nm wq1.heap.size;have HF11:Bx (Fr p w wq11 [(w.heap.size,#[B C s.num,D AP nP cP,D AB nB cB,D AX nX cX],29),(w.heap.size+1,#[B C lp,B C lc,B C lg,B C lv],39),(w.heap.size+2,#[B C 0,B C 0,B C 0,B C 0,.string ⟨#[]⟩,B C 0,D none 0 0,B C 0,B C 0,B C 0,B C 0,B C 0,B C 0],41),(g11,#[B C 0,B C 0,B C 0,B C 0,.string ⟨#[]⟩,B C 0,D none 0 0,B C 0,B C 0,B C 0,B C 0,B C 0,B C 0],41)]):=⟨by rw[hwq11];exact HF1.out.push _ _ hg11.symm⟩
    have HI11:=bx (HI1.out.ext hx11);rw[<-hwq11,<-hg11];clear hwq11 hg11 hx11;have kS11:wq11.cell? ⟨w.heap.size,0,none⟩=some (B C s.num)/\wq11.cell? ⟨w.heap.size,1,none⟩=some (D AP nP cP)/\wq11.cell? ⟨w.heap.size,2,none⟩=some (D AB nB cB)/\wq11.cell? ⟨w.heap.size,3,none⟩=some (D AX nX cX)/\wq11.cell? ⟨w.heap.size+1,0,none⟩=some (B C lp)/\wq11.cell? ⟨w.heap.size+1,1,none⟩=some (B C lc)/\wq11.cell? ⟨w.heap.size+1,2,none⟩=some (B C lg)/\wq11.cell? ⟨w.heap.size+1,3,none⟩=some (B C lv):=⟨(HF11.out.at_ 0 rfl).c 0 rfl,(HF11.out.at_ 0 rfl).c 1 rfl,(HF11.out.at_ 0 rfl).c 2 rfl,(HF11.out.at_ 0 rfl).c 3 rfl,(HF11.out.at_ 1 rfl).c 0 rfl,(HF11.out.at_ 1 rfl).c 1 rfl,(HF11.out.at_ 1 rfl).c 2 rfl,(HF11.out.at_ 1 rfl).c 3 rfl⟩
    clear HF1 HI1 kS1;refine hK.out _ _ (fun _=>(kS11)) ?_;clear hK K;try simp only[kA]
    refine zO 3 (fun K hK=>?_);go_simp;refine (az p 1 2 _ HF11.out.tp (by omega) (by omega) (by omega) (by omega)).mono ?_;rintro e wq12 ⟨v12,rfl,⟨s',rfl,hs1,hs2⟩,HT12,HX12⟩;have HI12:=bx (HI11.out.xt HX12);have HF12:=bx (HF11.out.step HX12 HT12);have kS12:wq12.cell? ⟨w.heap.size,0,none⟩=some (B C s.num)/\wq12.cell? ⟨w.heap.size,1,none⟩=some (D AP nP cP)/\wq12.cell? ⟨w.heap.size,2,none⟩=some (D AB nB cB)/\wq12.cell? ⟨w.heap.size,3,none⟩=some (D AX nX cX)/\wq12.cell? ⟨w.heap.size+1,0,none⟩=some (B C lp)/\wq12.cell? ⟨w.heap.size+1,1,none⟩=some (B C lc)/\wq12.cell? ⟨w.heap.size+1,2,none⟩=some (B C lg)/\wq12.cell? ⟨w.heap.size+1,3,none⟩=some (B C lv):=⟨(HF12.out.at_ 0 rfl).c 0 rfl,(HF12.out.at_ 0 rfl).c 1 rfl,(HF12.out.at_ 0 rfl).c 2 rfl,(HF12.out.at_ 0 rfl).c 3 rfl,(HF12.out.at_ 1 rfl).c 0 rfl,(HF12.out.at_ 1 rfl).c 1 rfl,(HF12.out.at_ 1 rfl).c 2 rfl,(HF12.out.at_ 1 rfl).c 3 rfl⟩
    clear HI11 HF11 kS11 HX12 HT12;refine hK.out _ _ (fun _=>(kS12)) ?_;clear hK K;try simp only[kA]
    refine zS 1 [(5,22)] kS12 ?_;refine zT ?_;refine zN (zO 8 (fun K hK=>?_));go_simp;refine (am p 3 _ HF12.out.tp (by omega)).mono ?_;rintro e wq13 ⟨v13,rfl,⟨ct,rfl,hc1,hc2⟩,HT13,HX13⟩;have HI13:=bx (HI12.out.xt HX13);have HF13:=bx (HF12.out.step HX13 HT13);have kS13:wq13.cell? ⟨w.heap.size,0,none⟩=some (B C s.num)/\wq13.cell? ⟨w.heap.size,1,none⟩=some (D AP nP cP)/\wq13.cell? ⟨w.heap.size,2,none⟩=some (D AB nB cB)/\wq13.cell? ⟨w.heap.size,3,none⟩=some (D AX nX cX)/\wq13.cell? ⟨w.heap.size+1,0,none⟩=some (B C lp)/\wq13.cell? ⟨w.heap.size+1,1,none⟩=some (B C lc)/\wq13.cell? ⟨w.heap.size+1,2,none⟩=some (B C lg)/\wq13.cell? ⟨w.heap.size+1,3,none⟩=some (B C lv):=⟨(HF13.out.at_ 0 rfl).c 0 rfl,(HF13.out.at_ 0 rfl).c 1 rfl,(HF13.out.at_ 0 rfl).c 2 rfl,(HF13.out.at_ 0 rfl).c 3 rfl,(HF13.out.at_ 1 rfl).c 0 rfl,(HF13.out.at_ 1 rfl).c 1 rfl,(HF13.out.at_ 1 rfl).c 2 rfl,(HF13.out.at_ 1 rfl).c 3 rfl⟩
    clear HI12 HF12 kS12 HX13 HT13;refine hK.out _ _ (fun _=>(kS13)) ?_;clear hK K;try simp only[kA]
    refine zO 12 (fun K hK=>?_);go_simp;refine (fJ p _ s ⟨lp,lc,lg,lv⟩ _ HF13.out.tp HI13.out HLW.out).mono ?_;rintro e wq14 ⟨v14,rfl,⟨ch,hch14⟩,HT14,HX14⟩;obtain⟨A,c,rfl⟩:=hch14.form;have HC14:Bx (fu wq14 w.heap.size (D A ch.length c) ch):=⟨hch14.base_ (by have:=HF13.out.xt.size;omega)⟩
    clear hch14;have HI14:=bx (HI13.out.xt HX14);have HF14:=bx (HF13.out.step HX14 HT14);have kS14:wq14.cell? ⟨w.heap.size,0,none⟩=some (B C s.num)/\wq14.cell? ⟨w.heap.size,1,none⟩=some (D AP nP cP)/\wq14.cell? ⟨w.heap.size,2,none⟩=some (D AB nB cB)/\wq14.cell? ⟨w.heap.size,3,none⟩=some (D AX nX cX)/\wq14.cell? ⟨w.heap.size+1,0,none⟩=some (B C lp)/\wq14.cell? ⟨w.heap.size+1,1,none⟩=some (B C lc)/\wq14.cell? ⟨w.heap.size+1,2,none⟩=some (B C lg)/\wq14.cell? ⟨w.heap.size+1,3,none⟩=some (B C lv):=⟨(HF14.out.at_ 0 rfl).c 0 rfl,(HF14.out.at_ 0 rfl).c 1 rfl,(HF14.out.at_ 0 rfl).c 2 rfl,(HF14.out.at_ 0 rfl).c 3 rfl,(HF14.out.at_ 1 rfl).c 0 rfl,(HF14.out.at_ 1 rfl).c 1 rfl,(HF14.out.at_ 1 rfl).c 2 rfl,(HF14.out.at_ 1 rfl).c 3 rfl⟩
    clear HI13 HF13 kS13 HX14 HT14;refine hK.out _ _ (fun _=>(kS14)) ?_;clear hK K;try simp only[kA]
    refine zS 1 [(13,30)] kS14 ?_;refine zT ?_;refine zN (zO 15 (fun K hK=>?_));obtain⟨z0,z1,z2,z3,z4,z5,z6,z7,z8,z9,z10,z11,z12⟩:=(HF14.out.at_ 3 rfl).p13 rfl;have f0:=(HF14.out.at_ 3 rfl).froz;have f1:=f0;have f2:=f0;have f3:=f0;have f4:=f0;have f5:=f0;have f6:=f0;have f7:=f0;have f8:=f0;have f9:=f0;have f10:=f0;have f11:=f0;have f12:=f0;go_simp;refine hK.out _ _ (fun h=>absurd rfl h) ?_;clear hK K;refine zD ?_;go_wp2_with fail;go_meet
    exact⟨g11,t,s',ct,A,ch.length,c,ch,rfl,ht1,ht2,hs1,hs2,hc1,by omega,⟨(eZ HC14.out (HF14.out.at_ 3 rfl) (by decide) 0 [B C t,B C s',B C seq,B C 1,.string b,B C ct,D A ch.length c,B C 0,B C 0,B C 0,B C 0,B C 0,B C 0]),HF14.out.setAll 3 rfl [B C t,B C s',B C seq,B C 1,.string b,B C ct,D A ch.length c,B C 0,B C 0,B C 0,B C 0,B C 0,B C 0] rfl⟩⟩
  ·go_simp;obtain⟨wq15,hwq15⟩:=nm ((wd.alloc (.cells #[B C 0,B C 0,B C 0,B C 0,.string ⟨#[]⟩,B C 0,D none 0 0,B C 0,B C 0,B C 0,B C 0,B C 0,B C 0] 41)):World);have hx15:ab wd wq15:=by rw[hwq15];exact (zE _).alloc _
   obtain⟨g15,hg15⟩:=nm wd.heap.size;have HF15:Bx (Fr p w wq15 [(w.heap.size,#[B C s.num,D AP nP cP,D AB nB cB,D AX nX cX],29),(w.heap.size+1,#[B C lp,B C lc,B C lg,B C lv],39),(w.heap.size+2,#[B C 0,B C 0,B C 0,B C 0,.string ⟨#[]⟩,B C 0,D none 0 0,B C 0,B C 0,B C 0,B C 0,B C 0,B C 0],41),(g15,#[B C 0,B C 0,B C 0,B C 0,.string ⟨#[]⟩,B C 0,D none 0 0,B C 0,B C 0,B C 0,B C 0,B C 0,B C 0],41)]):=⟨by rw[hwq15];exact HF0.out.push _ _ hg15.symm⟩
   have HI15:=bx (HI0.out.ext hx15);rw[<-hwq15,<-hg15];clear hwq15 hg15 hx15;have kS15:wq15.cell? ⟨w.heap.size,0,none⟩=some (B C s.num)/\wq15.cell? ⟨w.heap.size,1,none⟩=some (D AP nP cP)/\wq15.cell? ⟨w.heap.size,2,none⟩=some (D AB nB cB)/\wq15.cell? ⟨w.heap.size,3,none⟩=some (D AX nX cX)/\wq15.cell? ⟨w.heap.size+1,0,none⟩=some (B C lp)/\wq15.cell? ⟨w.heap.size+1,1,none⟩=some (B C lc)/\wq15.cell? ⟨w.heap.size+1,2,none⟩=some (B C lg)/\wq15.cell? ⟨w.heap.size+1,3,none⟩=some (B C lv):=⟨(HF15.out.at_ 0 rfl).c 0 rfl,(HF15.out.at_ 0 rfl).c 1 rfl,(HF15.out.at_ 0 rfl).c 2 rfl,(HF15.out.at_ 0 rfl).c 3 rfl,(HF15.out.at_ 1 rfl).c 0 rfl,(HF15.out.at_ 1 rfl).c 1 rfl,(HF15.out.at_ 1 rfl).c 2 rfl,(HF15.out.at_ 1 rfl).c 3 rfl⟩
   clear HF0 HI0 kS0;refine hK.out _ _ (fun _=>(kS15)) ?_;clear hK K;try simp only[kA]
   refine zO 1 (fun K hK=>?_);go_simp;refine (az p 0 24 _ HF15.out.tp (by omega) (by omega) (by omega) (by omega)).mono ?_;rintro e wq16 ⟨v16,rfl,⟨t,rfl,ht1,ht2⟩,HT16,HX16⟩;have HI16:=bx (HI15.out.xt HX16);have HF16:=bx (HF15.out.step HX16 HT16);have kS16:wq16.cell? ⟨w.heap.size,0,none⟩=some (B C s.num)/\wq16.cell? ⟨w.heap.size,1,none⟩=some (D AP nP cP)/\wq16.cell? ⟨w.heap.size,2,none⟩=some (D AB nB cB)/\wq16.cell? ⟨w.heap.size,3,none⟩=some (D AX nX cX)/\wq16.cell? ⟨w.heap.size+1,0,none⟩=some (B C lp)/\wq16.cell? ⟨w.heap.size+1,1,none⟩=some (B C lc)/\wq16.cell? ⟨w.heap.size+1,2,none⟩=some (B C lg)/\wq16.cell? ⟨w.heap.size+1,3,none⟩=some (B C lv):=⟨(HF16.out.at_ 0 rfl).c 0 rfl,(HF16.out.at_ 0 rfl).c 1 rfl,(HF16.out.at_ 0 rfl).c 2 rfl,(HF16.out.at_ 0 rfl).c 3 rfl,(HF16.out.at_ 1 rfl).c 0 rfl,(HF16.out.at_ 1 rfl).c 1 rfl,(HF16.out.at_ 1 rfl).c 2 rfl,(HF16.out.at_ 1 rfl).c 3 rfl⟩
   clear HI15 HF15 kS15 HX16 HT16;refine hK.out _ _ (fun _=>(kS16)) ?_;clear hK K;try simp only[kA]
   refine zO 3 (fun K hK=>?_);go_simp;refine (az p 1 2 _ HF16.out.tp (by omega) (by omega) (by omega) (by omega)).mono ?_;rintro e wq17 ⟨v17,rfl,⟨s',rfl,hs1,hs2⟩,HT17,HX17⟩;have HI17:=bx (HI16.out.xt HX17);have HF17:=bx (HF16.out.step HX17 HT17);have kS17:wq17.cell? ⟨w.heap.size,0,none⟩=some (B C s.num)/\wq17.cell? ⟨w.heap.size,1,none⟩=some (D AP nP cP)/\wq17.cell? ⟨w.heap.size,2,none⟩=some (D AB nB cB)/\wq17.cell? ⟨w.heap.size,3,none⟩=some (D AX nX cX)/\wq17.cell? ⟨w.heap.size+1,0,none⟩=some (B C lp)/\wq17.cell? ⟨w.heap.size+1,1,none⟩=some (B C lc)/\wq17.cell? ⟨w.heap.size+1,2,none⟩=some (B C lg)/\wq17.cell? ⟨w.heap.size+1,3,none⟩=some (B C lv):=⟨(HF17.out.at_ 0 rfl).c 0 rfl,(HF17.out.at_ 0 rfl).c 1 rfl,(HF17.out.at_ 0 rfl).c 2 rfl,(HF17.out.at_ 0 rfl).c 3 rfl,(HF17.out.at_ 1 rfl).c 0 rfl,(HF17.out.at_ 1 rfl).c 1 rfl,(HF17.out.at_ 1 rfl).c 2 rfl,(HF17.out.at_ 1 rfl).c 3 rfl⟩
   clear HI16 HF16 kS16 HX17 HT17;refine hK.out _ _ (fun _=>(kS17)) ?_;clear hK K;try simp only[kA]
   refine zS 1 [(5,22)] kS17 ?_;refine zT ?_;refine zN (zO 8 (fun K hK=>?_));go_simp;refine (am p 3 _ HF17.out.tp (by omega)).mono ?_;rintro e wq18 ⟨v18,rfl,⟨ct,rfl,hc1,hc2⟩,HT18,HX18⟩;have HI18:=bx (HI17.out.xt HX18);have HF18:=bx (HF17.out.step HX18 HT18);have kS18:wq18.cell? ⟨w.heap.size,0,none⟩=some (B C s.num)/\wq18.cell? ⟨w.heap.size,1,none⟩=some (D AP nP cP)/\wq18.cell? ⟨w.heap.size,2,none⟩=some (D AB nB cB)/\wq18.cell? ⟨w.heap.size,3,none⟩=some (D AX nX cX)/\wq18.cell? ⟨w.heap.size+1,0,none⟩=some (B C lp)/\wq18.cell? ⟨w.heap.size+1,1,none⟩=some (B C lc)/\wq18.cell? ⟨w.heap.size+1,2,none⟩=some (B C lg)/\wq18.cell? ⟨w.heap.size+1,3,none⟩=some (B C lv):=⟨(HF18.out.at_ 0 rfl).c 0 rfl,(HF18.out.at_ 0 rfl).c 1 rfl,(HF18.out.at_ 0 rfl).c 2 rfl,(HF18.out.at_ 0 rfl).c 3 rfl,(HF18.out.at_ 1 rfl).c 0 rfl,(HF18.out.at_ 1 rfl).c 1 rfl,(HF18.out.at_ 1 rfl).c 2 rfl,(HF18.out.at_ 1 rfl).c 3 rfl⟩
   clear HI17 HF17 kS17 HX18 HT18;refine hK.out _ _ (fun _=>(kS18)) ?_;clear hK K;try simp only[kA]
   refine zO 12 (fun K hK=>?_);go_simp;refine (fJ p _ s ⟨lp,lc,lg,lv⟩ _ HF18.out.tp HI18.out HLW.out).mono ?_;rintro e wq19 ⟨v19,rfl,⟨ch,hch19⟩,HT19,HX19⟩;obtain⟨A,c,rfl⟩:=hch19.form;have HC19:Bx (fu wq19 w.heap.size (D A ch.length c) ch):=⟨hch19.base_ (by have:=HF18.out.xt.size;omega)⟩
   clear hch19;have HI19:=bx (HI18.out.xt HX19);have HF19:=bx (HF18.out.step HX19 HT19);have kS19:wq19.cell? ⟨w.heap.size,0,none⟩=some (B C s.num)/\wq19.cell? ⟨w.heap.size,1,none⟩=some (D AP nP cP)/\wq19.cell? ⟨w.heap.size,2,none⟩=some (D AB nB cB)/\wq19.cell? ⟨w.heap.size,3,none⟩=some (D AX nX cX)/\wq19.cell? ⟨w.heap.size+1,0,none⟩=some (B C lp)/\wq19.cell? ⟨w.heap.size+1,1,none⟩=some (B C lc)/\wq19.cell? ⟨w.heap.size+1,2,none⟩=some (B C lg)/\wq19.cell? ⟨w.heap.size+1,3,none⟩=some (B C lv):=⟨(HF19.out.at_ 0 rfl).c 0 rfl,(HF19.out.at_ 0 rfl).c 1 rfl,(HF19.out.at_ 0 rfl).c 2 rfl,(HF19.out.at_ 0 rfl).c 3 rfl,(HF19.out.at_ 1 rfl).c 0 rfl,(HF19.out.at_ 1 rfl).c 1 rfl,(HF19.out.at_ 1 rfl).c 2 rfl,(HF19.out.at_ 1 rfl).c 3 rfl⟩
   clear HI18 HF18 kS18 HX19 HT19;refine hK.out _ _ (fun _=>(kS19)) ?_;clear hK K;try simp only[kA]
   refine zS 1 [(13,30)] kS19 ?_;refine zT ?_;refine zN (zO 15 (fun K hK=>?_));obtain⟨z0,z1,z2,z3,z4,z5,z6,z7,z8,z9,z10,z11,z12⟩:=(HF19.out.at_ 3 rfl).p13 rfl;have f0:=(HF19.out.at_ 3 rfl).froz;have f1:=f0;have f2:=f0;have f3:=f0;have f4:=f0;have f5:=f0;have f6:=f0;have f7:=f0;have f8:=f0;have f9:=f0;have f10:=f0;have f11:=f0;have f12:=f0;go_simp;refine hK.out _ _ (fun h=>absurd rfl h) ?_;clear hK K;refine zD ?_;go_wp2_with fail;go_meet
   exact⟨g15,t,s',ct,A,ch.length,c,ch,rfl,ht1,ht2,hs1,hs2,hc1,by omega,⟨(eZ HC19.out (HF19.out.at_ 3 rfl) (by decide) 0 [B C t,B C s',B C seq,B C 1,.string b,B C ct,D A ch.length c,B C 0,B C 0,B C 0,B C 0,B C 0,B C 0]),HF19.out.setAll 3 rfl [B C t,B C s',B C seq,B C 1,.string b,B C ct,D A ch.length c,B C 0,B C 0,B C 0,B C 0,B C 0,B C 0] rfl⟩⟩
 case rest =>
 obtain⟨g,t,s',ct,A,n,c,ch,rfl,ht1,ht2,hs1,hs2,hc1,hc2,HR⟩:=hcut;clear HF2 HSit2;go_wp2_with fail;refine (fe p 5 _ HR.out.2.tp (by omega) (by omega)).mono ?_;rintro e w3 ⟨v3,rfl,⟨b3,rfl⟩,HT3,HX3⟩;have H3:=bx (HR.out.2.step HX3 HT3);have I3:=bx (HR.out.1.xt HX3 hlt);clear HR HT3 HX3;go_upto_if 32 with (fail)
 go_cut [] (fun wx=>∃b':ByteArray,b'.size<=1000/\Bx (fu wx w.heap.size (D A n c) ch/\Fr p w wx [(w.heap.size,#[B C s.num,D AP nP cP,D AB nB cB,D AX nX cX],29),(w.heap.size+1,#[B C lp,B C lc,B C lg,B C lv],39),(w.heap.size+2,#[B C 0,B C 0,B C 0,B C 0,.string ⟨#[]⟩,B C 0,D none 0 0,B C 0,B C 0,B C 0,B C 0,B C 0,B C 0],41),(g,#[B C t,B C s',B C seq,B C 1,.string b',B C ct,D A n c,B C 0,B C 0,B C 0,B C 0,B C 0,B C 0],41)]))
 case first =>
  cases b3 with
  |false =>
   go_wp2_with fail;go_meet
   exact⟨b,hbs,⟨I3.out,H3.out⟩⟩
  |true =>
   have q2:=(H3.out.at_ 3 rfl).c 4 rfl;go_wp2_with fail;refine (pk b _ (by omega)).mono ?_;rintro e w4 ⟨b',rfl,hb',hx4⟩;have hbs':b'.size<=1000:=by rw[<-aO,hb',List.length_reverse,aO];exact hbs
   have H4:=bx (H3.out.ext hx4);have I4:=bx (I3.out.ext hx4);clear H3 I3 hx4 hb' q2;have q2:=(H4.out.at_ 3 rfl).c 4 rfl;have qf:=(H4.out.at_ 3 rfl).froz;go_wp2_with fail;go_meet
   exact⟨b',hbs',⟨I4.out.far (H4.out.at_ 3 rfl) (by decide) 4 _,H4.out.set 3 rfl 4 _⟩⟩
 case rest =>
 obtain⟨b1,hb1,HR⟩:=hcut;clear H3 I3 hbs;go_upto_region 5 with (fail)
 go_cut [43] (fun s43 wx=>∃b':Bool,s43=.bool b'/\Bx (fu wx w.heap.size (D A n c) ch/\Fr p w wx [(w.heap.size,#[B C s.num,D AP nP cP,D AB nB cB,D AX nX cX],29),(w.heap.size+1,#[B C lp,B C lc,B C lg,B C lv],39),(w.heap.size+2,#[B C 0,B C 0,B C 0,B C 0,.string ⟨#[]⟩,B C 0,D none 0 0,B C 0,B C 0,B C 0,B C 0,B C 0,B C 0],41),(g,#[B C t,B C s',B C seq,B C 1,.string b1,B C ct,D A n c,B C 0,B C 0,B C 0,B C 0,B C 0,B C 0],41)]))
 case first =>
  by_cases h0:0<b.size
  ·go_wp2_with fail;refine (fe p 4 _ HR.out.2.tp (by omega) (by omega)).mono ?_;rintro e w5 ⟨v5,rfl,⟨b5,rfl⟩,HT5,HX5⟩;go_wp2_with fail;go_meet
   exact⟨b5,rfl,⟨HR.out.1.xt HX5 hlt,HR.out.2.step HX5 HT5⟩⟩
  ·go_wp2_with fail;go_meet
   exact⟨false,rfl,HR⟩
 case rest =>
 obtain⟨b5,rfl,HR5⟩:=hcut;clear HR;go_upto_if 43 with (fail)
 go_cut [] (fun wx=>∃b':ByteArray,b'.size<=1000/\Bx (fu wx w.heap.size (D A n c) ch/\Fr p w wx [(w.heap.size,#[B C s.num,D AP nP cP,D AB nB cB,D AX nX cX],29),(w.heap.size+1,#[B C lp,B C lc,B C lg,B C lv],39),(w.heap.size+2,#[B C 0,B C 0,B C 0,B C 0,.string ⟨#[]⟩,B C 0,D none 0 0,B C 0,B C 0,B C 0,B C 0,B C 0,B C 0],41),(g,#[B C t,B C s',B C seq,B C 1,.string b',B C ct,D A n c,B C 0,B C 0,B C 0,B C 0,B C 0,B C 0],41)]))
 case first =>
  cases b5 with
  |false =>
   go_wp2_with fail;go_meet
   exact⟨b1,hb1,HR5⟩
  |true =>
   have q4:=(HR5.out.2.at_ 3 rfl).c 4 rfl;go_wp2_with fail;refine (C7 p b1 4 _ HR5.out.2.tp hb1 (by omega) (by omega)).mono ?_;rintro e w6 ⟨v6,rfl,⟨b6,rfl,hs6,_⟩,HT6,HX6⟩;have H6:Bx (fu w6 w.heap.size (D A n c) ch/\Fr p w w6 [(w.heap.size,#[B C s.num,D AP nP cP,D AB nB cB,D AX nX cX],29),(w.heap.size+1,#[B C lp,B C lc,B C lg,B C lv],39),(w.heap.size+2,#[B C 0,B C 0,B C 0,B C 0,.string ⟨#[]⟩,B C 0,D none 0 0,B C 0,B C 0,B C 0,B C 0,B C 0,B C 0],41),(g,#[B C t,B C s',B C seq,B C 1,.string b1,B C ct,D A n c,B C 0,B C 0,B C 0,B C 0,B C 0,B C 0],41)]):=⟨HR5.out.1.xt HX6 hlt,HR5.out.2.step HX6 HT6⟩
   clear HR5 HT6 HX6 q4;have q4:=(H6.out.2.at_ 3 rfl).c 4 rfl;have qf:=(H6.out.2.at_ 3 rfl).froz;go_wp2_with fail;go_meet
   exact⟨b6,by omega,⟨H6.out.1.far (H6.out.2.at_ 3 rfl) (by decide) 4 _,H6.out.2.set 3 rfl 4 _⟩⟩
 case rest =>
 obtain⟨b6,hb6,HR6⟩:=hcut;clear HR5;go_wp2_with fail;refine (fe p 10 _ HR6.out.2.tp (by omega) (by omega)).mono ?_;rintro e w7 ⟨v7,rfl,⟨b7,rfl⟩,HT7,HX7⟩;have H7:Bx (fu w7 w.heap.size (D A n c) ch/\Fr p w w7 [(w.heap.size,#[B C s.num,D AP nP cP,D AB nB cB,D AX nX cX],29),(w.heap.size+1,#[B C lp,B C lc,B C lg,B C lv],39),(w.heap.size+2,#[B C 0,B C 0,B C 0,B C 0,.string ⟨#[]⟩,B C 0,D none 0 0,B C 0,B C 0,B C 0,B C 0,B C 0,B C 0],41),(g,#[B C t,B C s',B C seq,B C 1,.string b6,B C ct,D A n c,B C 0,B C 0,B C 0,B C 0,B C 0,B C 0],41)]):=⟨HR6.out.1.xt HX7 hlt,HR6.out.2.step HX7 HT7⟩
 clear HR6 HT7 HX7;go_upto_if 50 with (fail)
 go_cut [] (fun wx=>∃b':ByteArray,b'.size<=1000/\Bx (fu wx w.heap.size (D A n c) ch/\Fr p w wx [(w.heap.size,#[B C s.num,D AP nP cP,D AB nB cB,D AX nX cX],29),(w.heap.size+1,#[B C lp,B C lc,B C lg,B C lv],39),(w.heap.size+2,#[B C 0,B C 0,B C 0,B C 0,.string ⟨#[]⟩,B C 0,D none 0 0,B C 0,B C 0,B C 0,B C 0,B C 0,B C 0],41),(g,#[B C t,B C s',B C seq,B C 1,.string b',B C ct,D A n c,B C 0,B C 0,B C 0,B C 0,B C 0,B C 0],41)]))
 case first =>
  cases b7 with
  |false =>
   go_wp2_with fail;go_meet
   exact⟨b6,hb6,H7⟩
  |true =>
   have q4:=(H7.out.2.at_ 3 rfl).c 4 rfl;have qf:=(H7.out.2.at_ 3 rfl).froz;go_wp2_with fail;go_meet
   exact⟨⟨#[63]⟩,by decide,⟨H7.out.1.far (H7.out.2.at_ 3 rfl) (by decide) 4 _,H7.out.2.set 3 rfl 4 _⟩⟩
 case rest =>
 obtain⟨b8,hb8,HR8⟩:=hcut;clear H7;obtain⟨q0,q1,q2,q3,q4,q5,q6,q7,q8,q9,q10,q11,q12⟩:=(HR8.out.2.at_ 3 rfl).p13 rfl;obtain⟨z0,z1,z2,z3,z4,z5,z6,z7,z8,z9,z10,z11,z12⟩:=(HR8.out.2.at_ 2 rfl).p13 rfl;have f0:=(HR8.out.2.at_ 2 rfl).froz;have f1:=f0;have f2:=f0;have f3:=f0;have f4:=f0;have f5:=f0;have f6:=f0;have f7:=f0;have f8:=f0;have f9:=f0;have f10:=f0;have f11:=f0;have f12:=f0;go_wp2_with fail;have H9:=HR8.out.2.sets 2 rfl 0 [B C t,B C s',B C seq,B C 1,.string b8,B C ct,D A n c,B C 0,B C 0,B C 0,B C 0,B C 0,B C 0];refine bodyPost_ret (v:=.agg #[B C t,B C s',B C seq,B C 1,.string b8,B C ct,D A n c,B C 0,B C 0,B C 0,B C 0,B C 0,B C 0]) (by simp[results,results48,go_sem,q0,q1,q2,q3,q4,q5,q6,q7,q8,q9,q10,q11,q12,z0,z1,z2,z3,z4,z5,z6,z7,z8,z9,z10,z11,z12]) rfl ?_;have HC9:=eZ HR8.out.1 (HR8.out.2.at_ 2 rfl) (by decide) 0 [B C t,B C s',B C seq,B C 1,.string b8,B C ct,D A n c,B C 0,B C 0,B C 0,B C 0,B C 0,B C 0];obtain⟨A_,c_,he⟩:=HC9.form;injection he with h1 h2 h3;subst h1;subst h2;subst h3;exact⟨_,rfl,⟨t,s',ct,b8,A,c,ch,rfl,ht1,ht2,hs1,hs2,hc1,hc2,hb8,HC9⟩,H9.tp,H9.xt⟩
def hZ(w:World)(base:Nat)(v:Value)(l:List Int):Prop:=w.ownsRow base 3 1 v l.length (l.map (Value.int .i64))/\(∀x∈l,aU x)/\l.length<=1000000
section
variable {p base:Nat} {w w':World} {v:Value} {l:List Int}
theorem hZ.ext(h:hZ w base v l)(hx:ab w w'):hZ w' base v l:=⟨ao h.1 hx,h.2⟩
theorem hZ.base_(h:hZ w base v l)(hb:b<=base):hZ w b v l:=⟨cd h.1 hb,h.2⟩
theorem hZ.isI(h:hZ w base v l)(hp:p<base):ak p w v l:=ak.of_own h.1 hp h.2.1 (by have:=h.2.2;omega)
theorem hZ.form(h:hZ w base v l):∃A c,v=D A l.length c:=by
 rcases h.1.2 with ⟨e,h0⟩|⟨g,cap,cur,e,_⟩
 ·exact⟨none,0,by rw[e,h0]⟩
 ·exact⟨_,_,e⟩
theorem hZ.apart{e n:Nat}{z:Value}{xs:List Value}(h:hZ w base v l)(ho:w.ownsRow b e size z n xs)(he:3≠e)(hg:w.grownBy w' z.ownBlock):hZ w' base v l :=
 ⟨aJ h.1 hg fun k hk e'=>cA h.1 ho he k hk e',h.2⟩
theorem hZ.far(h:hZ w base v l)(hb:Bk w g cs t)(ht:t≠3)(i:Nat)(u:Value):hZ (w.setCell ⟨g,i,none⟩ u) base v l :=
 ⟨aN (a:=⟨g,i,none⟩) h.1 (aG h.1 hb ht) u,h.2⟩
theorem hZ.sets(h:hZ w base v l)(hb:Bk w g cs t)(ht:t≠3)(i:Nat)(vs:List Value):hZ (be w g i vs) base v l:=by
 induction vs generalizing w cs i with
 |nil=>exact h
 |cons u vs ih=>exact ih (h.far hb ht i u) (hb.set i u) (i+1)
theorem hZ.nil(w:World)(base:Nat):hZ w base (D none 0 0) []:=⟨yZ _ _ _ _,by simp,by simp⟩
end
theorem aA.grownT{w':World}{L:BL}{base e n:Nat}{xs:List Value}(h:aA w wx L)(ho:wx.ownsRow base e size v n xs)(hg:wx.grownBy w' v.ownBlock)(hb:w.heap.size<=base)(hne:(L.all fun x=>x.2.2 != e)=true):aA w w' L :=
 h.grown hg (fun k x hk=>aG ho (h.bl.bk k x.1 x.2.1 x.2.2 hk).2 (by have:=xS.1 hne x (zW hk);simpa using this)) (fun k hk=>yR hb (aq ho k hk))
structure pU {α:Type} (base e size:Nat) (f:α->List Value) (ok:World->α->Prop) (w:World) (v:Value) (ys:List α):Prop where
 own:da base e size f w v ys
 el:∀y∈ys,ok w y
section
variable {α:Type} {p base e size:Nat} {f:α->List Value} {ok:World->α->Prop} {w w':World} {v v':Value} {ys:List α}
theorem pU.nil(ok:World->α->Prop)(w:World):pU base e size f ok w (D none 0 0) ([]:List α):=⟨da.nil,fun y h=>by simp at h⟩
theorem pU.ext(h:pU base e size f ok w v ys)(hs:∀y,ok w y->ok w' y)(hx:ab w w'):pU base e size f ok w' v ys:=⟨h.own.ext hx,fun y hy=>hs y (h.el y hy)⟩
theorem pU.push{y:α}(h:pU base e size f ok w v ys)(ho:w'.ownsRow base e size v' (ys.length+1) ((ys.map f).flatten++f y))(hs:∀y,ok w y->ok w' y)(hy:ok w' y):pU base e size f ok w' v' (ys++[y]) :=
 ⟨da.push ho,fun z hz=>by
  rcases zM.1 hz with hz|hz
  ·exact hs z (h.el z hz)
  ·obtain rfl:z=y:=by simpa using hz
   exact hy⟩
theorem pU.form(h:pU base e size f ok w v ys):∃A c,v=D A ys.length c:=h.own.form
theorem pU.isS{β:Type}{R:World->List Value->β->Prop}(g:α->β)(h:pU base e size f ok w v ys)(hp:p<base)(hsz:0<size)(hf:∀y∈ys,(f y).length=size)(hR:∀y∈ys,ok w y->R w (f y) (g y)):bj p size R w v (ys.map g):=by
 refine bj.of_own (e:=e) (ys.map f) (fun cs hcs=>by obtain⟨y,hy,rfl⟩:=zF.1 hcs;exact hf y hy) hsz (by simp) (by rw[zJ];exact h.own) hp ?_;intro k cs x hcs hx;simp only[zP,yO]at hcs hx;obtain⟨y,hy,rfl⟩:=hcs;obtain⟨z,hz,rfl⟩:=hx;rw[hy]at hz;injection hz with hz;subst hz
 exact hR y (zW hy) (h.el y (zW hy))
end
theorem bj.re{α:Type}{q:Nat}{R R':World->List Value->α->Prop}{xs:List α}(h:bj p size R w v xs)(hq:w.heap.size<=q)(hsz:0<size)(hR:∀cs x,R w cs x->R' w cs x):bj q size R' w v xs:=by obtain⟨A,c,hv,h1,h2,h4⟩:=h;refine⟨A,c,hv,h1,h2,fun k x hx=>?_⟩;obtain⟨b,off,cs,ha,hb,hcl,hcell,hr⟩:=h4 k x hx;have:=bK (hcell 0 cs[0] (zV (by omega)));simp at this;exact⟨b,off,cs,ha,by omega,hcl,hcell,hR _ _ hr⟩
section
variable {p q:Nat} {w:World} {v:Value}
theorem oc.re{l:List (List Int)}(h:oc p w v l)(hq:w.heap.size<=q):oc q w v l:=bj.re h hq (by decide) fun cs x=>by rintro⟨u,rfl,hi⟩;exact⟨u,rfl,hi.re hq⟩
theorem oa.re{l:List av}(h:oa p w v l)(hq:w.heap.size<=q):oa q w v l:=bj.re h hq (by decide) fun cs x hr=>hr
theorem aR.re{s:dl}(h:aR p w v s)(hq:w.heap.size<=q):aR q w v s:=by
 obtain⟨vP,vB,vX,h0,h1,h2,h3,h4⟩:=h;refine⟨vP,vB,vX,h0,bj.re h1 hq (by decide) fun cs x=>?_,bj.re h2 hq (by decide) fun cs x=>?_,bj.re h3 hq (by decide) fun cs x hr=>hr,h4⟩
 ·rintro⟨u,rfl,a,b,c⟩;exact⟨u,rfl,oa.re a hq,b,c⟩
 ·rintro⟨u,rfl,a⟩;exact⟨u,rfl,oc.re a hq⟩
theorem aK.re{t:r6}(h:aK p w v t)(hq:w.heap.size<=q):aK q w v t:=by obtain⟨vS,vG,h0,h1,h2⟩:=h;refine⟨vS,vG,h0,bj.re h1 hq (by decide) fun cs x hr=>hr,bj.re h2 hq (by decide) fun cs x=>?_⟩;rintro⟨u,rfl,a,b⟩;exact⟨u,rfl,a.re hq,b⟩
end
section
variable {w wx:World} {L:BL}
theorem aA.swap{a b:Nat×Array Value×TypeId}(h:aA w wx (L++[a,b])):aA w wx (L++[b,a]):=by
 have key:∀k x,(L++[b,a])[k]?=some x->∃j,(L++[a,b])[j]?=some x/\(k<L.length->j=k)/\(k=L.length->j=L.length+1)/\(k=L.length+1->j=L.length)/\k<L.length+2:=by
  intro k x hx;have hk:=(zY.1 hx).1;simp at hk;rcases zU k L.length with h1|h1
  ·rw[yY h1]at hx;exact⟨k,by rw[yY h1];exact hx,fun _=>rfl,by omega,by omega,by omega⟩
  ·rw[yL h1]at hx;rcases Nat.eq_or_lt_of_le h1 with h2|h2
   ·subst h2;refine⟨L.length+1,?_,by omega,by omega,by omega,by omega⟩;rw[yL (by omega)];simpa using hx
   ·obtain rfl:k=L.length+1:=by omega
    refine⟨L.length,?_,by omega,by omega,by omega,by omega⟩;rw[yL (by omega)];simpa using hx
 refine⟨h.xt,⟨fun k b' cs t hk=>?_,fun i j x y hi hj hij=>?_⟩⟩
 ·obtain⟨j,hj,-⟩:=key k _ hk;exact h.bl.bk j b' cs t hj
 ·obtain⟨i',hi',a1,a2,a3,a4⟩:=key i _ hi;obtain⟨j',hj',b1,b2,b3,b4⟩:=key j _ hj;refine h.bl.df i' j' x y hi' hj' ?_;rcases xO i L.length with c|c|c<;>rcases xO j L.length with d|d|d
  ·have:=a1 c;have:=b1 d;omega
  ·have:=a1 c;have:=b2 d;omega
  ·have:=a1 c;have:=b3 (by omega);omega
  ·have:=a2 c;have:=b1 d;omega
  ·omega
  ·have:=a2 c;have:=b3 (by omega);omega
  ·have:=a3 (by omega);have:=b1 d;omega
  ·have:=a3 (by omega);have:=b2 d;omega
  ·omega
theorem aA.add{cur:Array Value}(h:aA w wx L)(hb:Bk wx g cur t)(hg:w.heap.size<=g)(hn:∀(k:Nat) x,L[k]?=some x->x.1≠g):aA w wx (L++[(g,cur,t)]):=by
 refine⟨h.xt,⟨fun k b' cs t' hk=>?_,fun i j x y hi hj hij=>?_⟩⟩
 ·rcases zU k L.length with h1|h1
  ·rw[yY h1]at hk;exact h.bl.bk k b' cs t' hk
  ·have h2:=(zY.1 hk).1;simp at h2;obtain rfl:k=L.length:=by omega
   simp at hk;obtain⟨rfl,rfl,rfl⟩:=hk;exact⟨hg,hb⟩
 ·have e1:=(zY.1 hi).1;have e2:=(zY.1 hj).1;simp at e1 e2;rcases zU i L.length with h1|h1
  ·rw[yY h1]at hi;rcases zU j L.length with h2|h2
   ·rw[yY h2]at hj;exact h.bl.df i j x y hi hj hij
   ·obtain rfl:j=L.length:=by omega
    simp at hj;subst hj;exact hn i x hi
  ·obtain rfl:i=L.length:=by omega
   simp at hi;subst hi;rcases zU j L.length with h2|h2
   ·rw[yY h2]at hj;exact fun e=>hn j y hj e.symm
   ·omega
end
structure Lz (cur:Array Value) (n cap:Nat) (l:List Int):Prop where
 size:cur.size=cap
 le:n<=cap
 mx:cap<=maxLen
 len:l.length=n
 eq:cur.toList.take n=l.map (Value.int .i64)
section
variable {w:World} {b g n cap:Nat} {cur:Array Value} {l:List Int}
theorem hZ.ans(h:hZ w b (D (some ⟨g,0,none⟩) n cap) l)(hn:l.length=n):∃cur,Bk w g cur 3/\Lz cur n cap l/\b<=g:=by
 rcases h.1.2 with ⟨e,h0⟩|⟨g',cap',cur,e,hb,hk,h1,h2,h3,h4⟩
 ·cases e
 ·cases e;exact⟨cur,hk,⟨by omega,by omega,h2,hn,by rw[<-h4,hn];simp⟩,hb⟩
theorem Lz.intV(h:Lz cur n cap l)(hb:Bk w g cur 3)(hg:b<=g)(h64:∀x∈l,aU x)(hl:l.length<=1000000):hZ w b (D (some ⟨g,0,none⟩) n cap) l:=by have e:=h.len;refine⟨?_,h64,hl⟩;rw[e];exact⟨by simp[e],.inr ⟨g,cap,cur,rfl,hg,hb,h.le,h.mx,by have:=h.size;omega,by rw[wH];exact h.eq⟩⟩
theorem Lz.get(h:Lz cur n cap l){i:Nat}{v:Int}(hv:l[i]?=some v):cur[i]?=some (B C v):=by
 have hi:i<n:=by have:=(zY.1 hv).1;have:=h.len;omega
 have h1:(cur.toList.take n)[i]?=(l.map (Value.int .i64))[i]?:=by rw[h.eq]
 rw[List.getElem?_take_of_lt hi,zP,hv]at h1;simpa using h1
theorem Lz.put(h:Lz cur n cap l){i:Nat}(hi:i<n)(v:Int):Lz (cur.setIfInBounds i (B C v)) n cap (l.set i v):=by refine⟨by simp[h.size],h.le,h.mx,by simp[h.len],?_⟩;rw[tY,List.take_set,h.eq,wX]
end
end Go.Proofs.YtpaidaphacoblaaGreatDoor

