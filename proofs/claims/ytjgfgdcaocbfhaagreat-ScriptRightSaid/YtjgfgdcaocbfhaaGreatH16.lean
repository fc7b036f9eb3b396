import Derived.Test.YtjgfgdcaocbfhaaGreatCapC
import Derived.Test.YtjgfgdcaocbfhaaGreatH15
set_option linter.all false
set_option maxRecDepth 100000
set_option maxHeartbeats 0
namespace Go.Proofs.YtjgfgdcaocbfhaaGreat
open Go.Value renaming int→B,slice→D
open Go.IntKind renaming i64→C
open Go.RowKit _root_.Go.Proofs.Tryz
variable {b base g k n p:Nat} {w wx:World} {cs:Array Value} {t:TypeId}
def cZ(wx:World)(b:Nat):Nat→List Value→World
 |_,[]=>wx
 |i,v::vs=>cZ (wx.setCell ⟨b,i,none⟩ v) b (i+1) vs
def dL(cs:Array Value):Nat→List Value→Array Value
 |_,[]=>cs
 |i,v::vs=>dL (cs.setIfInBounds i v) (i+1) vs
theorem Fr.sets{L:BL}(h:Fr p w wx L)(k:Nat)(hk:L[k]?=some (b,cs,t))(i:Nat)(vs:List Value):Fr p w (cZ wx b i vs) (L.set k (b,dL cs i vs,t)):=by
 induction vs generalizing wx cs L i with
 |nil =>
  obtain⟨hl,e⟩:=zY.1 hk;have:L.set k (b,cs,t)=L:=by rw[←e];exact List.set_getElem_self hl
  unfold cZ dL;rw[this];exact h
 |cons v vs ih =>
  have h1:=h.set k hk i v;have hl:=(zY.1 hk).1;have h2:=ih h1 (by rw[xL hl]) (i+1);rw[List.set_set]at h2;exact h2
theorem ae.sets{L:BL}(h:ae w wx L)(k:Nat)(hk:L[k]?=some (b,cs,t))(i:Nat)(vs:List Value):ae w (cZ wx b i vs) (L.set k (b,dL cs i vs,t)):=by
 induction vs generalizing wx cs L i with
 |nil =>
  obtain⟨hl,e⟩:=zY.1 hk;have:L.set k (b,cs,t)=L:=by rw[←e];exact List.set_getElem_self hl
  unfold cZ dL;rw[this];exact h
 |cons v vs ih =>
  have h1:=h.set k hk i v;have hl:=(zY.1 hk).1;have h2:=ih h1 (by rw[xL hl]) (i+1);rw[List.set_set]at h2;exact h2
theorem lU:∀(vs:List Value) (cs:Array Value) (i k:Nat),(dL cs i vs)[k]?=if i≤k∧k<i+vs.length∧k<cs.size then vs[k-i]? else cs[k]?
 |[],cs,i,k=>by rw[if_neg (by simp;omega)];rfl
 |v::vs,cs,i,k=>by
  unfold dL;rw[lU vs,wZ,wH,xT];by_cases h:i=k
  ·subst h;rw[if_neg (by omega)];by_cases h2:i<cs.size
   ·rw[if_pos rfl,if_pos h2,if_pos (by omega)];simp
   ·rw[if_pos rfl,if_neg h2,if_neg (by omega)];exact (yM (by omega)).symm
  ·by_cases h2:i+1≤k∧k<i+1+vs.length∧k<cs.size
   ·rw[if_pos h2,if_pos (by omega),show k-i=(k-(i+1))+1 by omega];rfl
   ·rw[if_neg h2,if_neg h,if_neg (by omega)]
theorem rz{vs:List Value}(h:vs.length=cs.size):dL cs 0 vs=vs.toArray:=by
 apply Array.ext_getElem?;intro k;rw[lU];by_cases h2:k<cs.size
 ·rw[if_pos (by omega)];simp
 ·rw[if_neg (by omega),yM (by omega)];exact (yM (by simp;omega)).symm
theorem Fr.setAll{L:BL}(h:Fr p w wx L)(k:Nat)(hk:L[k]?=some (b,cs,t))(vs:List Value)(hl:vs.length=cs.size):Fr p w (cZ wx b 0 vs) (L.set k (b,vs.toArray,t)):=by have:=h.sets k hk 0 vs;rwa [rz hl]at this
theorem ae.setAll{L:BL}(h:ae w wx L)(k:Nat)(hk:L[k]?=some (b,cs,t))(vs:List Value)(hl:vs.length=cs.size):ae w (cZ wx b 0 vs) (L.set k (b,vs.toArray,t)):=by have:=h.sets k hk 0 vs;rwa [rz hl]at this
theorem eo{v:Value}{ch:List Int}(h:eY wx base v ch)(hb:Bk wx b cs t)(ht:t≠3)(i:Nat)(vs:List Value):eY (cZ wx b i vs) base v ch:=by
 induction vs generalizing wx cs i with
 |nil=>exact h
 |cons u vs ih=>exact ih (h.far hb ht i u) (hb.set i u) (i+1)
def Ik(base:Nat)(seq:Int)(v:Value)(w:World):Prop:=∃(t s ct:Int) (b:ByteArray) (A:Option Addr) (c:Nat) (ch:List Int),
 v=.agg #[B C t,B C s,B C seq,B C 1,.string b,B C ct,D A ch.length c,B C 0,B C 0,B C 0,B C 0,B C 0,B C 0] ∧
 0≤t∧t≤24∧1≤s∧s≤2∧0≤ct∧ct≤2∧b.size≤1000∧eY w base (D A ch.length c) ch
theorem tH(p c g v:Int):(xz p c g v).length≤1000:=by
 unfold xz;split
 ·rw[BZ (uA _ _ _ _)];omega
 ·simp
theorem po(p:Nat)(v:Value)(s:aZ)(l:cU)(seq:Int)(w:World)(h:bt w p)(hs:aN p w v s)(hl:l.wf)(hq:aC seq) :
  Calls prog 52 #[.pointer (some ⟨p,0,none⟩),v,l.val,B C seq] w (fX p w (Ik w.heap.size seq)):=by
 have HS0:=hs;obtain⟨vP,vB,vX,rfl,hP,hB,hX,hnum⟩:=hs;obtain⟨AP,nP,cP,rfl,-⟩:=hP.open_;obtain⟨AB,nB,cB,rfl,-⟩:=hB.open_;obtain⟨AX,nX,cX,rfl,-⟩:=hX.open_;obtain⟨lp,lc,lg,lv⟩:=l;have HLW:Bx (cU.wf ⟨lp,lc,lg,lv⟩):=⟨hl⟩
 have hlt:=h.lt;have hv:cU.val ⟨lp,lc,lg,lv⟩=.agg #[B C lp,B C lc,B C lg,B C lv]:=rfl;rw[hv];obtain⟨w1,hw1⟩:=nm ((((w.alloc (.cells #[B C s.num,D AP nP cP,D AB nB cB,D AX nX cX] 27)).alloc (.cells #[B C lp,B C lc,B C lg,B C lv] 73)).alloc (.cells #[B C 0,B C 0,B C 0,B C 0,.string ⟨#[]⟩,B C 0,D none 0 0,B C 0,B C 0,B C 0,B C 0,B C 0,B C 0] 111)):World);have HF:Bx (Fr p w w1 [(w.heap.size,#[B C s.num,D AP nP cP,D AB nB cB,D AX nX cX],27),(w.heap.size+1,#[B C lp,B C lc,B C lg,B C lv],73),(w.heap.size+2,#[B C 0,B C 0,B C 0,B C 0,.string ⟨#[]⟩,B C 0,D none 0 0,B C 0,B C 0,B C 0,B C 0,B C 0,B C 0],111)]):=⟨by rw[hw1];exact (((Fr.start h).push _ _ rfl).push _ _ (by simp)).push _ _ (by simp)⟩
 have HSit:Bx (aN p w1 (.agg #[B C s.num,D AP nP cP,D AB nB cB,D AX nX cX]) s):=⟨by rw[hw1];exact HS0.ext ((((zE _).alloc _).alloc _).alloc _)⟩
 clear hv hl hP hB hX hnum HS0 h;obtain⟨l0,l1,l2,l3⟩:=(HF.out.at_ 1 rfl).p4 rfl;go_enter func52,ntmps52
 go_upto_region 1 with (fail)
 rw[←hw1];clear hw1;go_wp2_with fail;refine (qy lp lc lg lv _).mono ?_;rintro e w2 ⟨b,k,rfl,-,hb,hx2⟩;have hbs:b.size≤1000:=by rw[←aU,hb];exact tH _ _ _ _
 have HF2:=bx (HF.out.ext hx2);have HSit2:=bx (HSit.out.ext hx2);clear HF HSit hx2 hb l0 l1 l2 l3;go_upto_region 2 with (fail)
 go_cut [11] (fun s11 wx=>∃(g:Nat) (t s' ct:Int) (A:Option Addr) (n c:Nat) (ch:List Int),s11=.pointer (some ⟨g,0,none⟩)∧0≤t∧t≤24∧1≤s'∧s'≤2∧0≤ct∧ct≤2∧Bx (eY wx w.heap.size (D A n c) ch∧Fr p w wx [(w.heap.size,#[B C s.num,D AP nP cP,D AB nB cB,D AX nX cX],27),(w.heap.size+1,#[B C lp,B C lc,B C lg,B C lv],73),(w.heap.size+2,#[B C 0,B C 0,B C 0,B C 0,.string ⟨#[]⟩,B C 0,D none 0 0,B C 0,B C 0,B C 0,B C 0,B C 0,B C 0],111),(g,#[B C t,B C s',B C seq,B C 1,.string b,B C ct,D A n c,B C 0,B C 0,B C 0,B C 0,B C 0,B C 0],111)]))
 case first =>
  refine zR 15 (fun w'=>w'.cell? ⟨w.heap.size,0,none⟩=some (B C s.num)∧w'.cell? ⟨w.heap.size,1,none⟩=some (D AP nP cP)∧w'.cell? ⟨w.heap.size,2,none⟩=some (D AB nB cB)∧w'.cell? ⟨w.heap.size,3,none⟩=some (D AX nX cX)∧w'.cell? ⟨w.heap.size+1,0,none⟩=some (B C lp)∧w'.cell? ⟨w.heap.size+1,1,none⟩=some (B C lc)∧w'.cell? ⟨w.heap.size+1,2,none⟩=some (B C lg)∧w'.cell? ⟨w.heap.size+1,3,none⟩=some (B C lv)) ?_;obtain⟨wd,hwd⟩:=nm (w2.drew:World);have hxd:ab w2 wd:=by rw[hwd];exact (zE _).drew
  have HF0:=bx (HF2.out.ext hxd);have HI0:=bx (HSit2.out.ext hxd);rw[←hwd];clear hwd hxd;have kS0:wd.cell? ⟨w.heap.size,0,none⟩=some (B C s.num)∧wd.cell? ⟨w.heap.size,1,none⟩=some (D AP nP cP)∧wd.cell? ⟨w.heap.size,2,none⟩=some (D AB nB cB)∧wd.cell? ⟨w.heap.size,3,none⟩=some (D AX nX cX)∧wd.cell? ⟨w.heap.size+1,0,none⟩=some (B C lp)∧wd.cell? ⟨w.heap.size+1,1,none⟩=some (B C lc)∧wd.cell? ⟨w.heap.size+1,2,none⟩=some (B C lg)∧wd.cell? ⟨w.heap.size+1,3,none⟩=some (B C lv):=⟨(HF0.out.at_ 0 rfl).c 0 rfl,(HF0.out.at_ 0 rfl).c 1 rfl,(HF0.out.at_ 0 rfl).c 2 rfl,(HF0.out.at_ 0 rfl).c 3 rfl,(HF0.out.at_ 1 rfl).c 0 rfl,(HF0.out.at_ 1 rfl).c 1 rfl,(HF0.out.at_ 1 rfl).c 2 rfl,(HF0.out.at_ 1 rfl).c 3 rfl⟩
  refine zS 8 [(0,17),(2,19),(4,21),(6,23),(7,24),(9,26),(10,27),(11,28)] kS0 ?_;iterate 8 (apply zT;exact⟨rfl,rfl⟩;(·intro _ _;go_simp;try with_reducible rfl);simp only[kA];exact rfl)
  refine zN (bD 1 14 (by kernel_rfl) rfl rfl (fun K hK=>?_) (fun K hK=>?_))
  ·go_simp;refine (am p 0 24 _ HF0.out.tp (by omega) (by omega) (by omega) (by omega)).mono ?_;rintro e wq1 ⟨v1,rfl,⟨t,rfl,ht1,ht2⟩,HT1,HX1⟩;have HF1:=bx (HF0.out.step HX1 HT1);have HI1:=bx (HI0.out.xt HX1);have kS1:wq1.cell? ⟨w.heap.size,0,none⟩=some (B C s.num)∧wq1.cell? ⟨w.heap.size,1,none⟩=some (D AP nP cP)∧wq1.cell? ⟨w.heap.size,2,none⟩=some (D AB nB cB)∧wq1.cell? ⟨w.heap.size,3,none⟩=some (D AX nX cX)∧wq1.cell? ⟨w.heap.size+1,0,none⟩=some (B C lp)∧wq1.cell? ⟨w.heap.size+1,1,none⟩=some (B C lc)∧wq1.cell? ⟨w.heap.size+1,2,none⟩=some (B C lg)∧wq1.cell? ⟨w.heap.size+1,3,none⟩=some (B C lv):=⟨(HF1.out.at_ 0 rfl).c 0 rfl,(HF1.out.at_ 0 rfl).c 1 rfl,(HF1.out.at_ 0 rfl).c 2 rfl,(HF1.out.at_ 0 rfl).c 3 rfl,(HF1.out.at_ 1 rfl).c 0 rfl,(HF1.out.at_ 1 rfl).c 1 rfl,(HF1.out.at_ 1 rfl).c 2 rfl,(HF1.out.at_ 1 rfl).c 3 rfl⟩
   clear HF0 HI0 kS0 HX1 HT1;refine hK.out _ _ (fun _=>(kS1)) ?_;clear hK K;try simp only[kA]
   refine bD 3 14 (by kernel_rfl) rfl rfl (fun K hK=>?_) (fun K hK=>?_)
   ·go_simp;refine (am p 1 2 _ HF1.out.tp (by omega) (by omega) (by omega) (by omega)).mono ?_;rintro e wq2 ⟨v2,rfl,⟨s',rfl,hs1,hs2⟩,HT2,HX2⟩;have HF2:=bx (HF1.out.step HX2 HT2);have HI2:=bx (HI1.out.xt HX2);have kS2:wq2.cell? ⟨w.heap.size,0,none⟩=some (B C s.num)∧wq2.cell? ⟨w.heap.size,1,none⟩=some (D AP nP cP)∧wq2.cell? ⟨w.heap.size,2,none⟩=some (D AB nB cB)∧wq2.cell? ⟨w.heap.size,3,none⟩=some (D AX nX cX)∧wq2.cell? ⟨w.heap.size+1,0,none⟩=some (B C lp)∧wq2.cell? ⟨w.heap.size+1,1,none⟩=some (B C lc)∧wq2.cell? ⟨w.heap.size+1,2,none⟩=some (B C lg)∧wq2.cell? ⟨w.heap.size+1,3,none⟩=some (B C lv):=⟨(HF2.out.at_ 0 rfl).c 0 rfl,(HF2.out.at_ 0 rfl).c 1 rfl,(HF2.out.at_ 0 rfl).c 2 rfl,(HF2.out.at_ 0 rfl).c 3 rfl,(HF2.out.at_ 1 rfl).c 0 rfl,(HF2.out.at_ 1 rfl).c 1 rfl,(HF2.out.at_ 1 rfl).c 2 rfl,(HF2.out.at_ 1 rfl).c 3 rfl⟩
    clear HF1 HI1 kS1 HX2 HT2;refine hK.out _ _ (fun _=>(kS2)) ?_;clear hK K;try simp only[kA]
    refine zS 1 [(5,22)] kS2 ?_;(apply zT;exact⟨rfl,rfl⟩;(·intro _ _;go_simp;try with_reducible rfl);simp only[kA];exact rfl);refine zN (bD 8 14 (by kernel_rfl) rfl rfl (fun K hK=>?_) (fun K hK=>?_))
    ·go_simp;refine (au p 3 _ HF2.out.tp (by omega)).mono ?_;rintro e wq3 ⟨v3,rfl,⟨ct,rfl,hc1,hc2⟩,HT3,HX3⟩;have HF3:=bx (HF2.out.step HX3 HT3);have HI3:=bx (HI2.out.xt HX3);have kS3:wq3.cell? ⟨w.heap.size,0,none⟩=some (B C s.num)∧wq3.cell? ⟨w.heap.size,1,none⟩=some (D AP nP cP)∧wq3.cell? ⟨w.heap.size,2,none⟩=some (D AB nB cB)∧wq3.cell? ⟨w.heap.size,3,none⟩=some (D AX nX cX)∧wq3.cell? ⟨w.heap.size+1,0,none⟩=some (B C lp)∧wq3.cell? ⟨w.heap.size+1,1,none⟩=some (B C lc)∧wq3.cell? ⟨w.heap.size+1,2,none⟩=some (B C lg)∧wq3.cell? ⟨w.heap.size+1,3,none⟩=some (B C lv):=⟨(HF3.out.at_ 0 rfl).c 0 rfl,(HF3.out.at_ 0 rfl).c 1 rfl,(HF3.out.at_ 0 rfl).c 2 rfl,(HF3.out.at_ 0 rfl).c 3 rfl,(HF3.out.at_ 1 rfl).c 0 rfl,(HF3.out.at_ 1 rfl).c 1 rfl,(HF3.out.at_ 1 rfl).c 2 rfl,(HF3.out.at_ 1 rfl).c 3 rfl⟩
     clear HF2 HI2 kS2 HX3 HT3;refine hK.out _ _ (fun _=>(kS3)) ?_;clear hK K;try simp only[kA]
     refine bD 12 14 (by kernel_rfl) rfl rfl (fun K hK=>?_) (fun K hK=>?_)
     ·go_simp;refine (eG p _ s ⟨lp,lc,lg,lv⟩ _ HF3.out.tp HI3.out HLW.out).mono ?_;rintro e wq4 ⟨v4,rfl,⟨ch,hch4⟩,HT4,HX4⟩;obtain⟨A,c,rfl⟩:=hch4.form;have HC4:Bx (eY wq4 w.heap.size (D A ch.length c) ch):=⟨hch4.base_ (by have:=HF3.out.xt.size;omega)⟩
      clear hch4;have HF4:=bx (HF3.out.step HX4 HT4);have HI4:=bx (HI3.out.xt HX4);have kS4:wq4.cell? ⟨w.heap.size,0,none⟩=some (B C s.num)∧wq4.cell? ⟨w.heap.size,1,none⟩=some (D AP nP cP)∧wq4.cell? ⟨w.heap.size,2,none⟩=some (D AB nB cB)∧wq4.cell? ⟨w.heap.size,3,none⟩=some (D AX nX cX)∧wq4.cell? ⟨w.heap.size+1,0,none⟩=some (B C lp)∧wq4.cell? ⟨w.heap.size+1,1,none⟩=some (B C lc)∧wq4.cell? ⟨w.heap.size+1,2,none⟩=some (B C lg)∧wq4.cell? ⟨w.heap.size+1,3,none⟩=some (B C lv):=⟨(HF4.out.at_ 0 rfl).c 0 rfl,(HF4.out.at_ 0 rfl).c 1 rfl,(HF4.out.at_ 0 rfl).c 2 rfl,(HF4.out.at_ 0 rfl).c 3 rfl,(HF4.out.at_ 1 rfl).c 0 rfl,(HF4.out.at_ 1 rfl).c 1 rfl,(HF4.out.at_ 1 rfl).c 2 rfl,(HF4.out.at_ 1 rfl).c 3 rfl⟩
      clear HF3 HI3 kS3 HX4 HT4;refine hK.out _ _ (fun _=>(kS4)) ?_;clear hK K;try simp only[kA]
      refine zS 1 [(13,30)] kS4 ?_;(apply zT;exact⟨rfl,rfl⟩;(·intro _ _;go_simp;try with_reducible rfl);simp only[kA];exact rfl);refine zN (zO 14 (fun K hK=>?_));go_simp;obtain⟨wq5,hwq5⟩:=nm ((wq4.alloc (.cells #[B C 0,B C 0,B C 0,B C 0,.string ⟨#[]⟩,B C 0,D none 0 0,B C 0,B C 0,B C 0,B C 0,B C 0,B C 0] 111)):World);have hx5:ab wq4 wq5:=by rw[hwq5];exact (zE _).alloc _
      obtain⟨g5,hg5⟩:=nm wq4.heap.size;have HF5:Bx (Fr p w wq5 [(w.heap.size,#[B C s.num,D AP nP cP,D AB nB cB,D AX nX cX],27),(w.heap.size+1,#[B C lp,B C lc,B C lg,B C lv],73),(w.heap.size+2,#[B C 0,B C 0,B C 0,B C 0,.string ⟨#[]⟩,B C 0,D none 0 0,B C 0,B C 0,B C 0,B C 0,B C 0,B C 0],111),(g5,#[B C 0,B C 0,B C 0,B C 0,.string ⟨#[]⟩,B C 0,D none 0 0,B C 0,B C 0,B C 0,B C 0,B C 0,B C 0],111)]):=⟨by rw[hwq5];exact HF4.out.push _ _ hg5.symm⟩
      have HI5:=bx (HI4.out.ext hx5);have HC5:=bx (HC4.out.ext hx5);rw[←hwq5,←hg5];clear hwq5 hg5 hx5;have kS5:wq5.cell? ⟨w.heap.size,0,none⟩=some (B C s.num)∧wq5.cell? ⟨w.heap.size,1,none⟩=some (D AP nP cP)∧wq5.cell? ⟨w.heap.size,2,none⟩=some (D AB nB cB)∧wq5.cell? ⟨w.heap.size,3,none⟩=some (D AX nX cX)∧wq5.cell? ⟨w.heap.size+1,0,none⟩=some (B C lp)∧wq5.cell? ⟨w.heap.size+1,1,none⟩=some (B C lc)∧wq5.cell? ⟨w.heap.size+1,2,none⟩=some (B C lg)∧wq5.cell? ⟨w.heap.size+1,3,none⟩=some (B C lv):=⟨(HF5.out.at_ 0 rfl).c 0 rfl,(HF5.out.at_ 0 rfl).c 1 rfl,(HF5.out.at_ 0 rfl).c 2 rfl,(HF5.out.at_ 0 rfl).c 3 rfl,(HF5.out.at_ 1 rfl).c 0 rfl,(HF5.out.at_ 1 rfl).c 1 rfl,(HF5.out.at_ 1 rfl).c 2 rfl,(HF5.out.at_ 1 rfl).c 3 rfl⟩
      clear HF4 HI4 HC4 kS4;refine hK.out _ _ (fun _=>(kS5)) ?_;clear hK K;try simp only[kA]
      refine zO 15 (fun K hK=>?_);obtain⟨z0,z1,z2,z3,z4,z5,z6,z7,z8,z9,z10,z11,z12⟩:=(HF5.out.at_ 3 rfl).p13 rfl;have f0:=(HF5.out.at_ 3 rfl).froz;have f1:=f0;have f2:=f0;have f3:=f0;have f4:=f0;have f5:=f0;have f6:=f0;have f7:=f0;have f8:=f0;have f9:=f0;have f10:=f0;have f11:=f0;have f12:=f0;go_simp;refine hK.out _ _ (fun h=>absurd rfl h) ?_;clear hK K;refine zD ?_;go_wp2_with fail;go_meet
      exact⟨g5,t,s',ct,A,ch.length,c,ch,rfl,ht1,ht2,hs1,hs2,hc1,by omega,⟨(eo HC5.out (HF5.out.at_ 3 rfl) (by decide) 0 [B C t,B C s',B C seq,B C 1,.string b,B C ct,D A ch.length c,B C 0,B C 0,B C 0,B C 0,B C 0,B C 0]),HF5.out.setAll 3 rfl [B C t,B C s',B C seq,B C 1,.string b,B C ct,D A ch.length c,B C 0,B C 0,B C 0,B C 0,B C 0,B C 0] rfl⟩⟩
     ·go_simp;obtain⟨wq6,hwq6⟩:=nm ((wq3.alloc (.cells #[B C 0,B C 0,B C 0,B C 0,.string ⟨#[]⟩,B C 0,D none 0 0,B C 0,B C 0,B C 0,B C 0,B C 0,B C 0] 111)):World);have hx6:ab wq3 wq6:=by rw[hwq6];exact (zE _).alloc _
      obtain⟨g6,hg6⟩:=nm wq3.heap.size;have HF6:Bx (Fr p w wq6 [(w.heap.size,#[B C s.num,D AP nP cP,D AB nB cB,D AX nX cX],27),(w.heap.size+1,#[B C lp,B C lc,B C lg,B C lv],73),(w.heap.size+2,#[B C 0,B C 0,B C 0,B C 0,.string ⟨#[]⟩,B C 0,D none 0 0,B C 0,B C 0,B C 0,B C 0,B C 0,B C 0],111),(g6,#[B C 0,B C 0,B C 0,B C 0,.string ⟨#[]⟩,B C 0,D none 0 0,B C 0,B C 0,B C 0,B C 0,B C 0,B C 0],111)]):=⟨by rw[hwq6];exact HF3.out.push _ _ hg6.symm⟩
      have HI6:=bx (HI3.out.ext hx6);rw[←hwq6,←hg6];clear hwq6 hg6 hx6;have kS6:wq6.cell? ⟨w.heap.size,0,none⟩=some (B C s.num)∧wq6.cell? ⟨w.heap.size,1,none⟩=some (D AP nP cP)∧wq6.cell? ⟨w.heap.size,2,none⟩=some (D AB nB cB)∧wq6.cell? ⟨w.heap.size,3,none⟩=some (D AX nX cX)∧wq6.cell? ⟨w.heap.size+1,0,none⟩=some (B C lp)∧wq6.cell? ⟨w.heap.size+1,1,none⟩=some (B C lc)∧wq6.cell? ⟨w.heap.size+1,2,none⟩=some (B C lg)∧wq6.cell? ⟨w.heap.size+1,3,none⟩=some (B C lv):=⟨(HF6.out.at_ 0 rfl).c 0 rfl,(HF6.out.at_ 0 rfl).c 1 rfl,(HF6.out.at_ 0 rfl).c 2 rfl,(HF6.out.at_ 0 rfl).c 3 rfl,(HF6.out.at_ 1 rfl).c 0 rfl,(HF6.out.at_ 1 rfl).c 1 rfl,(HF6.out.at_ 1 rfl).c 2 rfl,(HF6.out.at_ 1 rfl).c 3 rfl⟩
      clear HF3 HI3 kS3;refine hK.out _ _ (fun _=>(kS6)) ?_;clear hK K;try simp only[kA]
      refine zO 12 (fun K hK=>?_);go_simp;refine (eG p _ s ⟨lp,lc,lg,lv⟩ _ HF6.out.tp HI6.out HLW.out).mono ?_;rintro e wq7 ⟨v7,rfl,⟨ch,hch7⟩,HT7,HX7⟩;obtain⟨A,c,rfl⟩:=hch7.form;have HC7:Bx (eY wq7 w.heap.size (D A ch.length c) ch):=⟨hch7.base_ (by have:=HF6.out.xt.size;omega)⟩
      clear hch7;have HI7:=bx (HI6.out.xt HX7);have HF7:=bx (HF6.out.step HX7 HT7);have kS7:wq7.cell? ⟨w.heap.size,0,none⟩=some (B C s.num)∧wq7.cell? ⟨w.heap.size,1,none⟩=some (D AP nP cP)∧wq7.cell? ⟨w.heap.size,2,none⟩=some (D AB nB cB)∧wq7.cell? ⟨w.heap.size,3,none⟩=some (D AX nX cX)∧wq7.cell? ⟨w.heap.size+1,0,none⟩=some (B C lp)∧wq7.cell? ⟨w.heap.size+1,1,none⟩=some (B C lc)∧wq7.cell? ⟨w.heap.size+1,2,none⟩=some (B C lg)∧wq7.cell? ⟨w.heap.size+1,3,none⟩=some (B C lv):=⟨(HF7.out.at_ 0 rfl).c 0 rfl,(HF7.out.at_ 0 rfl).c 1 rfl,(HF7.out.at_ 0 rfl).c 2 rfl,(HF7.out.at_ 0 rfl).c 3 rfl,(HF7.out.at_ 1 rfl).c 0 rfl,(HF7.out.at_ 1 rfl).c 1 rfl,(HF7.out.at_ 1 rfl).c 2 rfl,(HF7.out.at_ 1 rfl).c 3 rfl⟩
      clear HI6 HF6 kS6 HX7 HT7;refine hK.out _ _ (fun _=>(kS7)) ?_;clear hK K;try simp only[kA]
      refine zS 1 [(13,30)] kS7 ?_;(apply zT;exact⟨rfl,rfl⟩;(·intro _ _;go_simp;try with_reducible rfl);simp only[kA];exact rfl);refine zN (zO 15 (fun K hK=>?_));obtain⟨z0,z1,z2,z3,z4,z5,z6,z7,z8,z9,z10,z11,z12⟩:=(HF7.out.at_ 3 rfl).p13 rfl;have f0:=(HF7.out.at_ 3 rfl).froz;have f1:=f0;have f2:=f0;have f3:=f0;have f4:=f0;have f5:=f0;have f6:=f0;have f7:=f0;have f8:=f0;have f9:=f0;have f10:=f0;have f11:=f0;have f12:=f0;go_simp;refine hK.out _ _ (fun h=>absurd rfl h) ?_;clear hK K;refine zD ?_;go_wp2_with fail;go_meet
      exact⟨g6,t,s',ct,A,ch.length,c,ch,rfl,ht1,ht2,hs1,hs2,hc1,by omega,⟨(eo HC7.out (HF7.out.at_ 3 rfl) (by decide) 0 [B C t,B C s',B C seq,B C 1,.string b,B C ct,D A ch.length c,B C 0,B C 0,B C 0,B C 0,B C 0,B C 0]),HF7.out.setAll 3 rfl [B C t,B C s',B C seq,B C 1,.string b,B C ct,D A ch.length c,B C 0,B C 0,B C 0,B C 0,B C 0,B C 0] rfl⟩⟩
    ·go_simp;obtain⟨wq8,hwq8⟩:=nm ((wq2.alloc (.cells #[B C 0,B C 0,B C 0,B C 0,.string ⟨#[]⟩,B C 0,D none 0 0,B C 0,B C 0,B C 0,B C 0,B C 0,B C 0] 111)):World);have hx8:ab wq2 wq8:=by rw[hwq8];exact (zE _).alloc _
     obtain⟨g8,hg8⟩:=nm wq2.heap.size;have HF8:Bx (Fr p w wq8 [(w.heap.size,#[B C s.num,D AP nP cP,D AB nB cB,D AX nX cX],27),(w.heap.size+1,#[B C lp,B C lc,B C lg,B C lv],73),(w.heap.size+2,#[B C 0,B C 0,B C 0,B C 0,.string ⟨#[]⟩,B C 0,D none 0 0,B C 0,B C 0,B C 0,B C 0,B C 0,B C 0],111),(g8,#[B C 0,B C 0,B C 0,B C 0,.string ⟨#[]⟩,B C 0,D none 0 0,B C 0,B C 0,B C 0,B C 0,B C 0,B C 0],111)]):=⟨by rw[hwq8];exact HF2.out.push _ _ hg8.symm⟩
     have HI8:=bx (HI2.out.ext hx8);rw[←hwq8,←hg8];clear hwq8 hg8 hx8;have kS8:wq8.cell? ⟨w.heap.size,0,none⟩=some (B C s.num)∧wq8.cell? ⟨w.heap.size,1,none⟩=some (D AP nP cP)∧wq8.cell? ⟨w.heap.size,2,none⟩=some (D AB nB cB)∧wq8.cell? ⟨w.heap.size,3,none⟩=some (D AX nX cX)∧wq8.cell? ⟨w.heap.size+1,0,none⟩=some (B C lp)∧wq8.cell? ⟨w.heap.size+1,1,none⟩=some (B C lc)∧wq8.cell? ⟨w.heap.size+1,2,none⟩=some (B C lg)∧wq8.cell? ⟨w.heap.size+1,3,none⟩=some (B C lv):=⟨(HF8.out.at_ 0 rfl).c 0 rfl,(HF8.out.at_ 0 rfl).c 1 rfl,(HF8.out.at_ 0 rfl).c 2 rfl,(HF8.out.at_ 0 rfl).c 3 rfl,(HF8.out.at_ 1 rfl).c 0 rfl,(HF8.out.at_ 1 rfl).c 1 rfl,(HF8.out.at_ 1 rfl).c 2 rfl,(HF8.out.at_ 1 rfl).c 3 rfl⟩
     clear HF2 HI2 kS2;refine hK.out _ _ (fun _=>(kS8)) ?_;clear hK K;try simp only[kA]
     refine zO 8 (fun K hK=>?_);go_simp;refine (au p 3 _ HF8.out.tp (by omega)).mono ?_;rintro e wq9 ⟨v9,rfl,⟨ct,rfl,hc1,hc2⟩,HT9,HX9⟩;have HI9:=bx (HI8.out.xt HX9);have HF9:=bx (HF8.out.step HX9 HT9);have kS9:wq9.cell? ⟨w.heap.size,0,none⟩=some (B C s.num)∧wq9.cell? ⟨w.heap.size,1,none⟩=some (D AP nP cP)∧wq9.cell? ⟨w.heap.size,2,none⟩=some (D AB nB cB)∧wq9.cell? ⟨w.heap.size,3,none⟩=some (D AX nX cX)∧wq9.cell? ⟨w.heap.size+1,0,none⟩=some (B C lp)∧wq9.cell? ⟨w.heap.size+1,1,none⟩=some (B C lc)∧wq9.cell? ⟨w.heap.size+1,2,none⟩=some (B C lg)∧wq9.cell? ⟨w.heap.size+1,3,none⟩=some (B C lv):=⟨(HF9.out.at_ 0 rfl).c 0 rfl,(HF9.out.at_ 0 rfl).c 1 rfl,(HF9.out.at_ 0 rfl).c 2 rfl,(HF9.out.at_ 0 rfl).c 3 rfl,(HF9.out.at_ 1 rfl).c 0 rfl,(HF9.out.at_ 1 rfl).c 1 rfl,(HF9.out.at_ 1 rfl).c 2 rfl,(HF9.out.at_ 1 rfl).c 3 rfl⟩
     clear HI8 HF8 kS8 HX9 HT9;refine hK.out _ _ (fun _=>(kS9)) ?_;clear hK K;try simp only[kA]
     refine zO 12 (fun K hK=>?_);go_simp;refine (eG p _ s ⟨lp,lc,lg,lv⟩ _ HF9.out.tp HI9.out HLW.out).mono ?_;rintro e wq10 ⟨v10,rfl,⟨ch,hch10⟩,HT10,HX10⟩;obtain⟨A,c,rfl⟩:=hch10.form;have HC10:Bx (eY wq10 w.heap.size (D A ch.length c) ch):=⟨hch10.base_ (by have:=HF9.out.xt.size;omega)⟩
     clear hch10;have HI10:=bx (HI9.out.xt HX10);have HF10:=bx (HF9.out.step HX10 HT10);have kS10:wq10.cell? ⟨w.heap.size,0,none⟩=some (B C s.num)∧wq10.cell? ⟨w.heap.size,1,none⟩=some (D AP nP cP)∧wq10.cell? ⟨w.heap.size,2,none⟩=some (D AB nB cB)∧wq10.cell? ⟨w.heap.size,3,none⟩=some (D AX nX cX)∧wq10.cell? ⟨w.heap.size+1,0,none⟩=some (B C lp)∧wq10.cell? ⟨w.heap.size+1,1,none⟩=some (B C lc)∧wq10.cell? ⟨w.heap.size+1,2,none⟩=some (B C lg)∧wq10.cell? ⟨w.heap.size+1,3,none⟩=some (B C lv):=⟨(HF10.out.at_ 0 rfl).c 0 rfl,(HF10.out.at_ 0 rfl).c 1 rfl,(HF10.out.at_ 0 rfl).c 2 rfl,(HF10.out.at_ 0 rfl).c 3 rfl,(HF10.out.at_ 1 rfl).c 0 rfl,(HF10.out.at_ 1 rfl).c 1 rfl,(HF10.out.at_ 1 rfl).c 2 rfl,(HF10.out.at_ 1 rfl).c 3 rfl⟩
     clear HI9 HF9 kS9 HX10 HT10;refine hK.out _ _ (fun _=>(kS10)) ?_;clear hK K;try simp only[kA]
     refine zS 1 [(13,30)] kS10 ?_;(apply zT;exact⟨rfl,rfl⟩;(·intro _ _;go_simp;try with_reducible rfl);simp only[kA];exact rfl);refine zN (zO 15 (fun K hK=>?_));obtain⟨z0,z1,z2,z3,z4,z5,z6,z7,z8,z9,z10,z11,z12⟩:=(HF10.out.at_ 3 rfl).p13 rfl;have f0:=(HF10.out.at_ 3 rfl).froz;have f1:=f0;have f2:=f0;have f3:=f0;have f4:=f0;have f5:=f0;have f6:=f0;have f7:=f0;have f8:=f0;have f9:=f0;have f10:=f0;have f11:=f0;have f12:=f0;go_simp;refine hK.out _ _ (fun h=>absurd rfl h) ?_;clear hK K;refine zD ?_;go_wp2_with fail;go_meet
     exact⟨g8,t,s',ct,A,ch.length,c,ch,rfl,ht1,ht2,hs1,hs2,hc1,by omega,⟨(eo HC10.out (HF10.out.at_ 3 rfl) (by decide) 0 [B C t,B C s',B C seq,B C 1,.string b,B C ct,D A ch.length c,B C 0,B C 0,B C 0,B C 0,B C 0,B C 0]),HF10.out.setAll 3 rfl [B C t,B C s',B C seq,B C 1,.string b,B C ct,D A ch.length c,B C 0,B C 0,B C 0,B C 0,B C 0,B C 0] rfl⟩⟩
   ·go_simp;obtain⟨wq11,hwq11⟩:=nm ((wq1.alloc (.cells #[B C 0,B C 0,B C 0,B C 0,.string ⟨#[]⟩,B C 0,D none 0 0,B C 0,B C 0,B C 0,B C 0,B C 0,B C 0] 111)):World);have hx11:ab wq1 wq11:=by rw[hwq11];exact (zE _).alloc _
    obtain⟨g11,hg11⟩:=nm wq1.heap.size;have HF11:Bx (Fr p w wq11 [(w.heap.size,#[B C s.num,D AP nP cP,D AB nB cB,D AX nX cX],27),(w.heap.size+1,#[B C lp,B C lc,B C lg,B C lv],73),(w.heap.size+2,#[B C 0,B C 0,B C 0,B C 0,.string ⟨#[]⟩,B C 0,D none 0 0,B C 0,B C 0,B C 0,B C 0,B C 0,B C 0],111),(g11,#[B C 0,B C 0,B C 0,B C 0,.string ⟨#[]⟩,B C 0,D none 0 0,B C 0,B C 0,B C 0,B C 0,B C 0,B C 0],111)]):=⟨by rw[hwq11];exact HF1.out.push _ _ hg11.symm⟩
    have HI11:=bx (HI1.out.ext hx11);rw[←hwq11,←hg11];clear hwq11 hg11 hx11;have kS11:wq11.cell? ⟨w.heap.size,0,none⟩=some (B C s.num)∧wq11.cell? ⟨w.heap.size,1,none⟩=some (D AP nP cP)∧wq11.cell? ⟨w.heap.size,2,none⟩=some (D AB nB cB)∧wq11.cell? ⟨w.heap.size,3,none⟩=some (D AX nX cX)∧wq11.cell? ⟨w.heap.size+1,0,none⟩=some (B C lp)∧wq11.cell? ⟨w.heap.size+1,1,none⟩=some (B C lc)∧wq11.cell? ⟨w.heap.size+1,2,none⟩=some (B C lg)∧wq11.cell? ⟨w.heap.size+1,3,none⟩=some (B C lv):=⟨(HF11.out.at_ 0 rfl).c 0 rfl,(HF11.out.at_ 0 rfl).c 1 rfl,(HF11.out.at_ 0 rfl).c 2 rfl,(HF11.out.at_ 0 rfl).c 3 rfl,(HF11.out.at_ 1 rfl).c 0 rfl,(HF11.out.at_ 1 rfl).c 1 rfl,(HF11.out.at_ 1 rfl).c 2 rfl,(HF11.out.at_ 1 rfl).c 3 rfl⟩
    clear HF1 HI1 kS1;refine hK.out _ _ (fun _=>(kS11)) ?_;clear hK K;try simp only[kA]
    refine zO 3 (fun K hK=>?_);go_simp;refine (am p 1 2 _ HF11.out.tp (by omega) (by omega) (by omega) (by omega)).mono ?_;rintro e wq12 ⟨v12,rfl,⟨s',rfl,hs1,hs2⟩,HT12,HX12⟩;have HI12:=bx (HI11.out.xt HX12);have HF12:=bx (HF11.out.step HX12 HT12);have kS12:wq12.cell? ⟨w.heap.size,0,none⟩=some (B C s.num)∧wq12.cell? ⟨w.heap.size,1,none⟩=some (D AP nP cP)∧wq12.cell? ⟨w.heap.size,2,none⟩=some (D AB nB cB)∧wq12.cell? ⟨w.heap.size,3,none⟩=some (D AX nX cX)∧wq12.cell? ⟨w.heap.size+1,0,none⟩=some (B C lp)∧wq12.cell? ⟨w.heap.size+1,1,none⟩=some (B C lc)∧wq12.cell? ⟨w.heap.size+1,2,none⟩=some (B C lg)∧wq12.cell? ⟨w.heap.size+1,3,none⟩=some (B C lv):=⟨(HF12.out.at_ 0 rfl).c 0 rfl,(HF12.out.at_ 0 rfl).c 1 rfl,(HF12.out.at_ 0 rfl).c 2 rfl,(HF12.out.at_ 0 rfl).c 3 rfl,(HF12.out.at_ 1 rfl).c 0 rfl,(HF12.out.at_ 1 rfl).c 1 rfl,(HF12.out.at_ 1 rfl).c 2 rfl,(HF12.out.at_ 1 rfl).c 3 rfl⟩
    clear HI11 HF11 kS11 HX12 HT12;refine hK.out _ _ (fun _=>(kS12)) ?_;clear hK K;try simp only[kA]
    refine zS 1 [(5,22)] kS12 ?_;(apply zT;exact⟨rfl,rfl⟩;(·intro _ _;go_simp;try with_reducible rfl);simp only[kA];exact rfl);refine zN (zO 8 (fun K hK=>?_));go_simp;refine (au p 3 _ HF12.out.tp (by omega)).mono ?_;rintro e wq13 ⟨v13,rfl,⟨ct,rfl,hc1,hc2⟩,HT13,HX13⟩;have HI13:=bx (HI12.out.xt HX13);have HF13:=bx (HF12.out.step HX13 HT13);have kS13:wq13.cell? ⟨w.heap.size,0,none⟩=some (B C s.num)∧wq13.cell? ⟨w.heap.size,1,none⟩=some (D AP nP cP)∧wq13.cell? ⟨w.heap.size,2,none⟩=some (D AB nB cB)∧wq13.cell? ⟨w.heap.size,3,none⟩=some (D AX nX cX)∧wq13.cell? ⟨w.heap.size+1,0,none⟩=some (B C lp)∧wq13.cell? ⟨w.heap.size+1,1,none⟩=some (B C lc)∧wq13.cell? ⟨w.heap.size+1,2,none⟩=some (B C lg)∧wq13.cell? ⟨w.heap.size+1,3,none⟩=some (B C lv):=⟨(HF13.out.at_ 0 rfl).c 0 rfl,(HF13.out.at_ 0 rfl).c 1 rfl,(HF13.out.at_ 0 rfl).c 2 rfl,(HF13.out.at_ 0 rfl).c 3 rfl,(HF13.out.at_ 1 rfl).c 0 rfl,(HF13.out.at_ 1 rfl).c 1 rfl,(HF13.out.at_ 1 rfl).c 2 rfl,(HF13.out.at_ 1 rfl).c 3 rfl⟩
    clear HI12 HF12 kS12 HX13 HT13;refine hK.out _ _ (fun _=>(kS13)) ?_;clear hK K;try simp only[kA]
    refine zO 12 (fun K hK=>?_);go_simp;refine (eG p _ s ⟨lp,lc,lg,lv⟩ _ HF13.out.tp HI13.out HLW.out).mono ?_;rintro e wq14 ⟨v14,rfl,⟨ch,hch14⟩,HT14,HX14⟩;obtain⟨A,c,rfl⟩:=hch14.form;have HC14:Bx (eY wq14 w.heap.size (D A ch.length c) ch):=⟨hch14.base_ (by have:=HF13.out.xt.size;omega)⟩
    clear hch14;have HI14:=bx (HI13.out.xt HX14);have HF14:=bx (HF13.out.step HX14 HT14);have kS14:wq14.cell? ⟨w.heap.size,0,none⟩=some (B C s.num)∧wq14.cell? ⟨w.heap.size,1,none⟩=some (D AP nP cP)∧wq14.cell? ⟨w.heap.size,2,none⟩=some (D AB nB cB)∧wq14.cell? ⟨w.heap.size,3,none⟩=some (D AX nX cX)∧wq14.cell? ⟨w.heap.size+1,0,none⟩=some (B C lp)∧wq14.cell? ⟨w.heap.size+1,1,none⟩=some (B C lc)∧wq14.cell? ⟨w.heap.size+1,2,none⟩=some (B C lg)∧wq14.cell? ⟨w.heap.size+1,3,none⟩=some (B C lv):=⟨(HF14.out.at_ 0 rfl).c 0 rfl,(HF14.out.at_ 0 rfl).c 1 rfl,(HF14.out.at_ 0 rfl).c 2 rfl,(HF14.out.at_ 0 rfl).c 3 rfl,(HF14.out.at_ 1 rfl).c 0 rfl,(HF14.out.at_ 1 rfl).c 1 rfl,(HF14.out.at_ 1 rfl).c 2 rfl,(HF14.out.at_ 1 rfl).c 3 rfl⟩
    clear HI13 HF13 kS13 HX14 HT14;refine hK.out _ _ (fun _=>(kS14)) ?_;clear hK K;try simp only[kA]
    refine zS 1 [(13,30)] kS14 ?_;(apply zT;exact⟨rfl,rfl⟩;(·intro _ _;go_simp;try with_reducible rfl);simp only[kA];exact rfl);refine zN (zO 15 (fun K hK=>?_));obtain⟨z0,z1,z2,z3,z4,z5,z6,z7,z8,z9,z10,z11,z12⟩:=(HF14.out.at_ 3 rfl).p13 rfl;have f0:=(HF14.out.at_ 3 rfl).froz;have f1:=f0;have f2:=f0;have f3:=f0;have f4:=f0;have f5:=f0;have f6:=f0;have f7:=f0;have f8:=f0;have f9:=f0;have f10:=f0;have f11:=f0;have f12:=f0;go_simp;refine hK.out _ _ (fun h=>absurd rfl h) ?_;clear hK K;refine zD ?_;go_wp2_with fail;go_meet
    exact⟨g11,t,s',ct,A,ch.length,c,ch,rfl,ht1,ht2,hs1,hs2,hc1,by omega,⟨(eo HC14.out (HF14.out.at_ 3 rfl) (by decide) 0 [B C t,B C s',B C seq,B C 1,.string b,B C ct,D A ch.length c,B C 0,B C 0,B C 0,B C 0,B C 0,B C 0]),HF14.out.setAll 3 rfl [B C t,B C s',B C seq,B C 1,.string b,B C ct,D A ch.length c,B C 0,B C 0,B C 0,B C 0,B C 0,B C 0] rfl⟩⟩
  ·go_simp;obtain⟨wq15,hwq15⟩:=nm ((wd.alloc (.cells #[B C 0,B C 0,B C 0,B C 0,.string ⟨#[]⟩,B C 0,D none 0 0,B C 0,B C 0,B C 0,B C 0,B C 0,B C 0] 111)):World);have hx15:ab wd wq15:=by rw[hwq15];exact (zE _).alloc _
   obtain⟨g15,hg15⟩:=nm wd.heap.size;have HF15:Bx (Fr p w wq15 [(w.heap.size,#[B C s.num,D AP nP cP,D AB nB cB,D AX nX cX],27),(w.heap.size+1,#[B C lp,B C lc,B C lg,B C lv],73),(w.heap.size+2,#[B C 0,B C 0,B C 0,B C 0,.string ⟨#[]⟩,B C 0,D none 0 0,B C 0,B C 0,B C 0,B C 0,B C 0,B C 0],111),(g15,#[B C 0,B C 0,B C 0,B C 0,.string ⟨#[]⟩,B C 0,D none 0 0,B C 0,B C 0,B C 0,B C 0,B C 0,B C 0],111)]):=⟨by rw[hwq15];exact HF0.out.push _ _ hg15.symm⟩
   have HI15:=bx (HI0.out.ext hx15);rw[←hwq15,←hg15];clear hwq15 hg15 hx15;have kS15:wq15.cell? ⟨w.heap.size,0,none⟩=some (B C s.num)∧wq15.cell? ⟨w.heap.size,1,none⟩=some (D AP nP cP)∧wq15.cell? ⟨w.heap.size,2,none⟩=some (D AB nB cB)∧wq15.cell? ⟨w.heap.size,3,none⟩=some (D AX nX cX)∧wq15.cell? ⟨w.heap.size+1,0,none⟩=some (B C lp)∧wq15.cell? ⟨w.heap.size+1,1,none⟩=some (B C lc)∧wq15.cell? ⟨w.heap.size+1,2,none⟩=some (B C lg)∧wq15.cell? ⟨w.heap.size+1,3,none⟩=some (B C lv):=⟨(HF15.out.at_ 0 rfl).c 0 rfl,(HF15.out.at_ 0 rfl).c 1 rfl,(HF15.out.at_ 0 rfl).c 2 rfl,(HF15.out.at_ 0 rfl).c 3 rfl,(HF15.out.at_ 1 rfl).c 0 rfl,(HF15.out.at_ 1 rfl).c 1 rfl,(HF15.out.at_ 1 rfl).c 2 rfl,(HF15.out.at_ 1 rfl).c 3 rfl⟩
   clear HF0 HI0 kS0;refine hK.out _ _ (fun _=>(kS15)) ?_;clear hK K;try simp only[kA]
   refine zO 1 (fun K hK=>?_);go_simp;refine (am p 0 24 _ HF15.out.tp (by omega) (by omega) (by omega) (by omega)).mono ?_;rintro e wq16 ⟨v16,rfl,⟨t,rfl,ht1,ht2⟩,HT16,HX16⟩;have HI16:=bx (HI15.out.xt HX16);have HF16:=bx (HF15.out.step HX16 HT16);have kS16:wq16.cell? ⟨w.heap.size,0,none⟩=some (B C s.num)∧wq16.cell? ⟨w.heap.size,1,none⟩=some (D AP nP cP)∧wq16.cell? ⟨w.heap.size,2,none⟩=some (D AB nB cB)∧wq16.cell? ⟨w.heap.size,3,none⟩=some (D AX nX cX)∧wq16.cell? ⟨w.heap.size+1,0,none⟩=some (B C lp)∧wq16.cell? ⟨w.heap.size+1,1,none⟩=some (B C lc)∧wq16.cell? ⟨w.heap.size+1,2,none⟩=some (B C lg)∧wq16.cell? ⟨w.heap.size+1,3,none⟩=some (B C lv):=⟨(HF16.out.at_ 0 rfl).c 0 rfl,(HF16.out.at_ 0 rfl).c 1 rfl,(HF16.out.at_ 0 rfl).c 2 rfl,(HF16.out.at_ 0 rfl).c 3 rfl,(HF16.out.at_ 1 rfl).c 0 rfl,(HF16.out.at_ 1 rfl).c 1 rfl,(HF16.out.at_ 1 rfl).c 2 rfl,(HF16.out.at_ 1 rfl).c 3 rfl⟩
   clear HI15 HF15 kS15 HX16 HT16;refine hK.out _ _ (fun _=>(kS16)) ?_;clear hK K;try simp only[kA]
   refine zO 3 (fun K hK=>?_);go_simp;refine (am p 1 2 _ HF16.out.tp (by omega) (by omega) (by omega) (by omega)).mono ?_;rintro e wq17 ⟨v17,rfl,⟨s',rfl,hs1,hs2⟩,HT17,HX17⟩;have HI17:=bx (HI16.out.xt HX17);have HF17:=bx (HF16.out.step HX17 HT17);have kS17:wq17.cell? ⟨w.heap.size,0,none⟩=some (B C s.num)∧wq17.cell? ⟨w.heap.size,1,none⟩=some (D AP nP cP)∧wq17.cell? ⟨w.heap.size,2,none⟩=some (D AB nB cB)∧wq17.cell? ⟨w.heap.size,3,none⟩=some (D AX nX cX)∧wq17.cell? ⟨w.heap.size+1,0,none⟩=some (B C lp)∧wq17.cell? ⟨w.heap.size+1,1,none⟩=some (B C lc)∧wq17.cell? ⟨w.heap.size+1,2,none⟩=some (B C lg)∧wq17.cell? ⟨w.heap.size+1,3,none⟩=some (B C lv):=⟨(HF17.out.at_ 0 rfl).c 0 rfl,(HF17.out.at_ 0 rfl).c 1 rfl,(HF17.out.at_ 0 rfl).c 2 rfl,(HF17.out.at_ 0 rfl).c 3 rfl,(HF17.out.at_ 1 rfl).c 0 rfl,(HF17.out.at_ 1 rfl).c 1 rfl,(HF17.out.at_ 1 rfl).c 2 rfl,(HF17.out.at_ 1 rfl).c 3 rfl⟩
   clear HI16 HF16 kS16 HX17 HT17;refine hK.out _ _ (fun _=>(kS17)) ?_;clear hK K;try simp only[kA]
   refine zS 1 [(5,22)] kS17 ?_;(apply zT;exact⟨rfl,rfl⟩;(·intro _ _;go_simp;try with_reducible rfl);simp only[kA];exact rfl);refine zN (zO 8 (fun K hK=>?_));go_simp;refine (au p 3 _ HF17.out.tp (by omega)).mono ?_;rintro e wq18 ⟨v18,rfl,⟨ct,rfl,hc1,hc2⟩,HT18,HX18⟩;have HI18:=bx (HI17.out.xt HX18);have HF18:=bx (HF17.out.step HX18 HT18);have kS18:wq18.cell? ⟨w.heap.size,0,none⟩=some (B C s.num)∧wq18.cell? ⟨w.heap.size,1,none⟩=some (D AP nP cP)∧wq18.cell? ⟨w.heap.size,2,none⟩=some (D AB nB cB)∧wq18.cell? ⟨w.heap.size,3,none⟩=some (D AX nX cX)∧wq18.cell? ⟨w.heap.size+1,0,none⟩=some (B C lp)∧wq18.cell? ⟨w.heap.size+1,1,none⟩=some (B C lc)∧wq18.cell? ⟨w.heap.size+1,2,none⟩=some (B C lg)∧wq18.cell? ⟨w.heap.size+1,3,none⟩=some (B C lv):=⟨(HF18.out.at_ 0 rfl).c 0 rfl,(HF18.out.at_ 0 rfl).c 1 rfl,(HF18.out.at_ 0 rfl).c 2 rfl,(HF18.out.at_ 0 rfl).c 3 rfl,(HF18.out.at_ 1 rfl).c 0 rfl,(HF18.out.at_ 1 rfl).c 1 rfl,(HF18.out.at_ 1 rfl).c 2 rfl,(HF18.out.at_ 1 rfl).c 3 rfl⟩
   clear HI17 HF17 kS17 HX18 HT18;refine hK.out _ _ (fun _=>(kS18)) ?_;clear hK K;try simp only[kA]
   refine zO 12 (fun K hK=>?_);go_simp;refine (eG p _ s ⟨lp,lc,lg,lv⟩ _ HF18.out.tp HI18.out HLW.out).mono ?_;rintro e wq19 ⟨v19,rfl,⟨ch,hch19⟩,HT19,HX19⟩;obtain⟨A,c,rfl⟩:=hch19.form;have HC19:Bx (eY wq19 w.heap.size (D A ch.length c) ch):=⟨hch19.base_ (by have:=HF18.out.xt.size;omega)⟩
   clear hch19;have HI19:=bx (HI18.out.xt HX19);have HF19:=bx (HF18.out.step HX19 HT19);have kS19:wq19.cell? ⟨w.heap.size,0,none⟩=some (B C s.num)∧wq19.cell? ⟨w.heap.size,1,none⟩=some (D AP nP cP)∧wq19.cell? ⟨w.heap.size,2,none⟩=some (D AB nB cB)∧wq19.cell? ⟨w.heap.size,3,none⟩=some (D AX nX cX)∧wq19.cell? ⟨w.heap.size+1,0,none⟩=some (B C lp)∧wq19.cell? ⟨w.heap.size+1,1,none⟩=some (B C lc)∧wq19.cell? ⟨w.heap.size+1,2,none⟩=some (B C lg)∧wq19.cell? ⟨w.heap.size+1,3,none⟩=some (B C lv):=⟨(HF19.out.at_ 0 rfl).c 0 rfl,(HF19.out.at_ 0 rfl).c 1 rfl,(HF19.out.at_ 0 rfl).c 2 rfl,(HF19.out.at_ 0 rfl).c 3 rfl,(HF19.out.at_ 1 rfl).c 0 rfl,(HF19.out.at_ 1 rfl).c 1 rfl,(HF19.out.at_ 1 rfl).c 2 rfl,(HF19.out.at_ 1 rfl).c 3 rfl⟩
   clear HI18 HF18 kS18 HX19 HT19;refine hK.out _ _ (fun _=>(kS19)) ?_;clear hK K;try simp only[kA]
   refine zS 1 [(13,30)] kS19 ?_;(apply zT;exact⟨rfl,rfl⟩;(·intro _ _;go_simp;try with_reducible rfl);simp only[kA];exact rfl);refine zN (zO 15 (fun K hK=>?_));obtain⟨z0,z1,z2,z3,z4,z5,z6,z7,z8,z9,z10,z11,z12⟩:=(HF19.out.at_ 3 rfl).p13 rfl;have f0:=(HF19.out.at_ 3 rfl).froz;have f1:=f0;have f2:=f0;have f3:=f0;have f4:=f0;have f5:=f0;have f6:=f0;have f7:=f0;have f8:=f0;have f9:=f0;have f10:=f0;have f11:=f0;have f12:=f0;go_simp;refine hK.out _ _ (fun h=>absurd rfl h) ?_;clear hK K;refine zD ?_;go_wp2_with fail;go_meet
   exact⟨g15,t,s',ct,A,ch.length,c,ch,rfl,ht1,ht2,hs1,hs2,hc1,by omega,⟨(eo HC19.out (HF19.out.at_ 3 rfl) (by decide) 0 [B C t,B C s',B C seq,B C 1,.string b,B C ct,D A ch.length c,B C 0,B C 0,B C 0,B C 0,B C 0,B C 0]),HF19.out.setAll 3 rfl [B C t,B C s',B C seq,B C 1,.string b,B C ct,D A ch.length c,B C 0,B C 0,B C 0,B C 0,B C 0,B C 0] rfl⟩⟩
 case rest =>
 obtain⟨g,t,s',ct,A,n,c,ch,rfl,ht1,ht2,hs1,hs2,hc1,hc2,HR⟩:=hcut;clear HF2 HSit2;go_wp2_with fail;refine (dR p 5 _ HR.out.2.tp (by omega) (by omega)).mono ?_;rintro e w3 ⟨v3,rfl,⟨b3,rfl⟩,HT3,HX3⟩;have H3:=bx (HR.out.2.step HX3 HT3);have I3:=bx (HR.out.1.xt HX3 hlt);clear HR HT3 HX3;go_upto_if 32 with (fail)
 go_cut [] (fun wx=>∃b':ByteArray,b'.size≤1000∧Bx (eY wx w.heap.size (D A n c) ch∧Fr p w wx [(w.heap.size,#[B C s.num,D AP nP cP,D AB nB cB,D AX nX cX],27),(w.heap.size+1,#[B C lp,B C lc,B C lg,B C lv],73),(w.heap.size+2,#[B C 0,B C 0,B C 0,B C 0,.string ⟨#[]⟩,B C 0,D none 0 0,B C 0,B C 0,B C 0,B C 0,B C 0,B C 0],111),(g,#[B C t,B C s',B C seq,B C 1,.string b',B C ct,D A n c,B C 0,B C 0,B C 0,B C 0,B C 0,B C 0],111)]))
 case first =>
  cases b3 with
  |false =>
   go_wp2_with fail;go_meet
   exact⟨b,hbs,⟨I3.out,H3.out⟩⟩
  |true =>
   have q2:=(H3.out.at_ 3 rfl).c 4 rfl;go_wp2_with fail;refine (mz b _ (by omega)).mono ?_;rintro e w4 ⟨b',rfl,hb',hx4⟩;have hbs':b'.size≤1000:=by rw[←aU,hb',List.length_reverse,aU];exact hbs
   have H4:=bx (H3.out.ext hx4);have I4:=bx (I3.out.ext hx4);clear H3 I3 hx4 hb' q2;have q2:=(H4.out.at_ 3 rfl).c 4 rfl;have qf:=(H4.out.at_ 3 rfl).froz;go_wp2_with fail;go_meet
   exact⟨b',hbs',⟨I4.out.far (H4.out.at_ 3 rfl) (by decide) 4 _,H4.out.set 3 rfl 4 _⟩⟩
 case rest =>
 obtain⟨b1,hb1,HR⟩:=hcut;clear H3 I3 hbs;go_upto_region 5 with (fail)
 go_cut [43] (fun s43 wx=>∃b':Bool,s43=.bool b'∧Bx (eY wx w.heap.size (D A n c) ch∧Fr p w wx [(w.heap.size,#[B C s.num,D AP nP cP,D AB nB cB,D AX nX cX],27),(w.heap.size+1,#[B C lp,B C lc,B C lg,B C lv],73),(w.heap.size+2,#[B C 0,B C 0,B C 0,B C 0,.string ⟨#[]⟩,B C 0,D none 0 0,B C 0,B C 0,B C 0,B C 0,B C 0,B C 0],111),(g,#[B C t,B C s',B C seq,B C 1,.string b1,B C ct,D A n c,B C 0,B C 0,B C 0,B C 0,B C 0,B C 0],111)]))
 case first =>
  by_cases h0:0<b.size
  ·go_wp2_with fail;refine (dR p 4 _ HR.out.2.tp (by omega) (by omega)).mono ?_;rintro e w5 ⟨v5,rfl,⟨b5,rfl⟩,HT5,HX5⟩;go_wp2_with fail;go_meet
   exact⟨b5,rfl,⟨HR.out.1.xt HX5 hlt,HR.out.2.step HX5 HT5⟩⟩
  ·go_wp2_with fail;go_meet
   exact⟨false,rfl,HR⟩
 case rest =>
 obtain⟨b5,rfl,HR5⟩:=hcut;clear HR;go_upto_if 43 with (fail)
 go_cut [] (fun wx=>∃b':ByteArray,b'.size≤1000∧Bx (eY wx w.heap.size (D A n c) ch∧Fr p w wx [(w.heap.size,#[B C s.num,D AP nP cP,D AB nB cB,D AX nX cX],27),(w.heap.size+1,#[B C lp,B C lc,B C lg,B C lv],73),(w.heap.size+2,#[B C 0,B C 0,B C 0,B C 0,.string ⟨#[]⟩,B C 0,D none 0 0,B C 0,B C 0,B C 0,B C 0,B C 0,B C 0],111),(g,#[B C t,B C s',B C seq,B C 1,.string b',B C ct,D A n c,B C 0,B C 0,B C 0,B C 0,B C 0,B C 0],111)]))
 case first =>
  cases b5 with
  |false =>
   go_wp2_with fail;go_meet
   exact⟨b1,hb1,HR5⟩
  |true =>
   have q4:=(HR5.out.2.at_ 3 rfl).c 4 rfl;go_wp2_with fail;refine (ym p b1 4 _ HR5.out.2.tp hb1 (by omega) (by omega)).mono ?_;rintro e w6 ⟨v6,rfl,⟨b6,rfl,hs6,_⟩,HT6,HX6⟩;have H6:Bx (eY w6 w.heap.size (D A n c) ch∧Fr p w w6 [(w.heap.size,#[B C s.num,D AP nP cP,D AB nB cB,D AX nX cX],27),(w.heap.size+1,#[B C lp,B C lc,B C lg,B C lv],73),(w.heap.size+2,#[B C 0,B C 0,B C 0,B C 0,.string ⟨#[]⟩,B C 0,D none 0 0,B C 0,B C 0,B C 0,B C 0,B C 0,B C 0],111),(g,#[B C t,B C s',B C seq,B C 1,.string b1,B C ct,D A n c,B C 0,B C 0,B C 0,B C 0,B C 0,B C 0],111)]):=⟨HR5.out.1.xt HX6 hlt,HR5.out.2.step HX6 HT6⟩
   clear HR5 HT6 HX6 q4;have q4:=(H6.out.2.at_ 3 rfl).c 4 rfl;have qf:=(H6.out.2.at_ 3 rfl).froz;go_wp2_with fail;go_meet
   exact⟨b6,by omega,⟨H6.out.1.far (H6.out.2.at_ 3 rfl) (by decide) 4 _,H6.out.2.set 3 rfl 4 _⟩⟩
 case rest =>
 obtain⟨b6,hb6,HR6⟩:=hcut;clear HR5;go_wp2_with fail;refine (dR p 10 _ HR6.out.2.tp (by omega) (by omega)).mono ?_;rintro e w7 ⟨v7,rfl,⟨b7,rfl⟩,HT7,HX7⟩;have H7:Bx (eY w7 w.heap.size (D A n c) ch∧Fr p w w7 [(w.heap.size,#[B C s.num,D AP nP cP,D AB nB cB,D AX nX cX],27),(w.heap.size+1,#[B C lp,B C lc,B C lg,B C lv],73),(w.heap.size+2,#[B C 0,B C 0,B C 0,B C 0,.string ⟨#[]⟩,B C 0,D none 0 0,B C 0,B C 0,B C 0,B C 0,B C 0,B C 0],111),(g,#[B C t,B C s',B C seq,B C 1,.string b6,B C ct,D A n c,B C 0,B C 0,B C 0,B C 0,B C 0,B C 0],111)]):=⟨HR6.out.1.xt HX7 hlt,HR6.out.2.step HX7 HT7⟩
 clear HR6 HT7 HX7;go_upto_if 50 with (fail)
 go_cut [] (fun wx=>∃b':ByteArray,b'.size≤1000∧Bx (eY wx w.heap.size (D A n c) ch∧Fr p w wx [(w.heap.size,#[B C s.num,D AP nP cP,D AB nB cB,D AX nX cX],27),(w.heap.size+1,#[B C lp,B C lc,B C lg,B C lv],73),(w.heap.size+2,#[B C 0,B C 0,B C 0,B C 0,.string ⟨#[]⟩,B C 0,D none 0 0,B C 0,B C 0,B C 0,B C 0,B C 0,B C 0],111),(g,#[B C t,B C s',B C seq,B C 1,.string b',B C ct,D A n c,B C 0,B C 0,B C 0,B C 0,B C 0,B C 0],111)]))
 case first =>
  cases b7 with
  |false =>
   go_wp2_with fail;go_meet
   exact⟨b6,hb6,H7⟩
  |true =>
   have q4:=(H7.out.2.at_ 3 rfl).c 4 rfl;have qf:=(H7.out.2.at_ 3 rfl).froz;go_wp2_with fail;go_meet
   exact⟨⟨#[63]⟩,by decide,⟨H7.out.1.far (H7.out.2.at_ 3 rfl) (by decide) 4 _,H7.out.2.set 3 rfl 4 _⟩⟩
 case rest =>
 obtain⟨b8,hb8,HR8⟩:=hcut;clear H7;obtain⟨q0,q1,q2,q3,q4,q5,q6,q7,q8,q9,q10,q11,q12⟩:=(HR8.out.2.at_ 3 rfl).p13 rfl;obtain⟨z0,z1,z2,z3,z4,z5,z6,z7,z8,z9,z10,z11,z12⟩:=(HR8.out.2.at_ 2 rfl).p13 rfl;have f0:=(HR8.out.2.at_ 2 rfl).froz;have f1:=f0;have f2:=f0;have f3:=f0;have f4:=f0;have f5:=f0;have f6:=f0;have f7:=f0;have f8:=f0;have f9:=f0;have f10:=f0;have f11:=f0;have f12:=f0;go_wp2_with fail;have H9:=HR8.out.2.sets 2 rfl 0 [B C t,B C s',B C seq,B C 1,.string b8,B C ct,D A n c,B C 0,B C 0,B C 0,B C 0,B C 0,B C 0];refine bodyPost_ret (v:=.agg #[B C t,B C s',B C seq,B C 1,.string b8,B C ct,D A n c,B C 0,B C 0,B C 0,B C 0,B C 0,B C 0]) (by simp[results,results52,go_sem,q0,q1,q2,q3,q4,q5,q6,q7,q8,q9,q10,q11,q12,z0,z1,z2,z3,z4,z5,z6,z7,z8,z9,z10,z11,z12]) rfl ?_;have HC9:=eo HR8.out.1 (HR8.out.2.at_ 2 rfl) (by decide) 0 [B C t,B C s',B C seq,B C 1,.string b8,B C ct,D A n c,B C 0,B C 0,B C 0,B C 0,B C 0,B C 0];obtain⟨A_,c_,he⟩:=HC9.form;injection he with h1 h2 h3;subst h1;subst h2;subst h3;exact⟨_,rfl,⟨t,s',ct,b8,A,c,ch,rfl,ht1,ht2,hs1,hs2,hc1,hc2,hb8,HC9⟩,H9.tp,H9.xt⟩
def ba(l:List UInt8):ByteArray:=⟨l.toArray⟩
theorem Ij(l:List UInt8):bl (ba l)=l:=by simp[bl,ba]
theorem DY(b:ByteArray):ba (bl b)=b:=by cases b;simp[bl,ba]
theorem Tryz.infoCap:(prog.info? 111).map (fun i=>(i.zero,i.size,i.bytes))=some (some (.agg #[B C 0,B C 0,B C 0,B C 0,.string ⟨#[]⟩,B C 0,D none 0 0,B C 0,B C 0,B C 0,B C 0,B C 0,B C 0]),13,128):=by kernel_rfl
def eM(y:aF×Value):List Value:=y.1.cells y.2
structure fK (c:aF):Prop where
 st:Ga c.st
 kind:aC c.kind
 str:c.str.length≤1000
 cont:aC c.cont
 tgt:c.tgt.wf
 lab:c.lab.wf
theorem fK.wf{c:aF}(h:fK c)(hc:c.ch.length≤200):c.wf:=⟨h.st.1,h.kind,h.str,h.cont,h.tgt,h.lab,by omega⟩
structure aq (base:Nat) (w:World) (v:Value) (ys:List (aF×Value)):Prop where
 own:aL base 111 13 eM w v ys
 el:∀y∈ys,eY w base y.2 y.1.ch∧fK y.1
section
variable {p base:Nat} {w w':World} {v v':Value} {ys:List (aF×Value)}
theorem aq.nil(base:Nat)(w:World):aq base w (D none 0 0) []:=⟨aL.nil,fun y h=>by simp at h⟩
theorem aq.xt(h:aq base w v ys)(hx:XT p w w')(hp:p<base):aq base w' v ys:=⟨h.own.xt hx hp,fun y hy=>⟨(h.el y hy).1.xt hx hp,(h.el y hy).2⟩⟩
theorem aq.ext(h:aq base w v ys)(hx:ab w w'):aq base w' v ys:=⟨h.own.ext hx,fun y hy=>⟨(h.el y hy).1.ext hx,(h.el y hy).2⟩⟩
theorem aq.far{g:Nat}{cs:Array Value}{t:TypeId}(h:aq base w v ys)(hb:Bk w g cs t)(ht:t≠3)(hv:v.ownBlock≠some g)(i:Nat)(u:Value):aq base (w.setCell ⟨g,i,none⟩ u) v ys :=
 ⟨bm (a:=⟨g,i,none⟩) h.own hv u,fun y hy=>⟨(h.el y hy).1.far hb ht i u,(h.el y hy).2⟩⟩
theorem aq.sets(h:aq base w v ys)(hb:Bk w g cs t)(ht:t≠3)(hv:v.ownBlock≠some g)(i:Nat)(vs:List Value):aq base (cZ w g i vs) v ys:=by
 induction vs generalizing w cs i with
 |nil=>exact h
 |cons u vs ih=>exact ih (h.far hb ht hv i u) (hb.set i u) (i+1)
theorem aq.push{y:aF×Value}(h:aq base w v ys)(hg:w.grownBy w' v.ownBlock)(ho:w'.ownsRow base 111 13 v' (ys.length+1) ((ys.map eM).flatten++eM y))(hc:eY w base y.2 y.1.ch)(hk:fK y.1):aq base w' v' (ys++[y]):=by
 refine⟨aL.push ho,fun z hz=>?_⟩;rcases zC.1 hz with hz|hz
 ·exact⟨(h.el z hz).1.apart h.own (by decide) hg,(h.el z hz).2⟩
 ·obtain rfl:z=y:=by simpa using hz
  exact⟨hc.apart h.own (by decide) hg,hk⟩
theorem aq.grownI{z:Value}{xs:List Value}(h:aq base w v ys)(ho:w.ownsRow b 3 1 z n xs)(hg:w.grownBy w' z.ownBlock)(hne:∀y∈ys,∀k,y.2.ownBlock=some k→z.ownBlock≠some k):aq base w' v ys :=
 ⟨a8 h.own ho (by decide) hg,fun y hy=>⟨⟨aE (h.el y hy).1.1 hg (hne y hy),(h.el y hy).1.2⟩,(h.el y hy).2⟩⟩
theorem aq.form(h:aq base w v ys):∃A c,v=D A ys.length c:=h.own.form
theorem aq.base_{b:Nat}(h:aq base w v ys)(hb:b≤base):aq b w v ys:=⟨bo h.own hb,fun y hy=>⟨(h.el y hy).1.base_ hb,(h.el y hy).2⟩⟩
theorem aq.isCs(h:aq base w v ys)(hp:p<base):fE p w v (ys.map Prod.fst):=by
 refine bg.of_own (e:=111) (ys.map eM) (fun cs hcs=>by obtain⟨y,_,rfl⟩:=zJ.1 hcs;rfl) (by decide) (by simp) (by rw[zM];exact h.own) hp ?_;intro k cs x hcs hx;simp only[zL,yI]at hcs hx;obtain⟨y,hy,rfl⟩:=hcs;obtain⟨z,hz,rfl⟩:=hx;rw[hy]at hz;injection hz with hz;subst hz
 have hm:=h.el y (zU hy);exact⟨y.2,rfl,hm.1.isI hp,hm.2.wf hm.1.2.2⟩
end
theorem sq{α:Type}{f:α→List Value}{size:Nat}{ys:List α}(hf:∀y∈ys,(f y).length=size){j:Nat}{y:α}(hk:ys[k]?=some y)(hj:j<size):(ys.map f).flatten[k*size+j]?=(f y)[j]?:=by
 induction ys generalizing k with
 |nil=>cases hk
 |cons a l ih =>
  have ha:(f a).length=size:=hf a (by simp);rw[xI,wO];cases k with
  |zero=>simp at hk;subst hk;rw[Nat.zero_mul,yV,zH (by omega)]
  |succ k =>
   rw[yT (by rw[ha,xQ];omega)];have:(k+1)*size+j-(f a).length=k*size+j:=by rw[ha,xQ];omega
   rw[this];exact ih (fun y hy=>hf y (by simp[hy])) (by simpa using hk)
theorem aL.cell{α:Type}{e size:Nat}{f:α→List Value}{cap:Nat}{ys:List α}(h:aL base e size f w (D (some ⟨g,0,none⟩) n cap) ys)(hf:∀y∈ys,(f y).length=size){j:Nat}{y:α}(hk:ys[k]?=some y)(hj:j<size){u:Value}(hu:(f y)[j]?=some u) :
  w.cell? ⟨g,k*size+j,none⟩=some u:=by
 have hlt:k*size+j<ys.length*size:=by have h1:=(zY.1 hk).1;have:(k+1)*size≤ys.length*size:=Nat.mul_le_mul_right _ h1;rw[xQ]at this;omega
 have hn:n=ys.length:=by obtain⟨A,c,e⟩:=h.form;injection e
 subst hn;rw[World.ownsRow.cellAt h _ hlt,sq hf hk hj,hu]
theorem aq.cells{cap:Nat}{ys:List (aF×Value)}(h:aq base w (D (some ⟨g,0,none⟩) n cap) ys)(hk:k<ys.length) :
  ∃(c:aF) (A:Option Addr) (cc:Nat),ys[k]?=some (c,D A c.ch.length cc)∧eY w base (D A c.ch.length cc) c.ch∧fK c∧w.cell? ⟨g,k*13,none⟩=some (B C c.st.t)∧w.cell? ⟨g,k*13+1,none⟩=some (B C c.st.s)∧w.cell? ⟨g,k*13+2,none⟩=some (B C c.st.q)∧w.cell? ⟨g,k*13+3,none⟩=some (B C c.kind)∧w.cell? ⟨g,k*13+4,none⟩=some (.string (ba c.str))∧w.cell? ⟨g,k*13+5,none⟩=some (B C c.cont)∧w.cell? ⟨g,k*13+6,none⟩=some (D A c.ch.length cc)∧w.cell? ⟨g,k*13+7,none⟩=some (B C c.tgt.s)∧w.cell? ⟨g,k*13+8,none⟩=some (B C c.tgt.q)∧w.cell? ⟨g,k*13+9,none⟩=some (B C c.lab.p)∧w.cell? ⟨g,k*13+10,none⟩=some (B C c.lab.c)∧w.cell? ⟨g,k*13+11,none⟩=some (B C c.lab.g)∧w.cell? ⟨g,k*13+12,none⟩=some (B C c.lab.v):=by
 obtain⟨y,hy⟩:∃y,ys[k]?=some y:=⟨_,zW hk⟩
 obtain⟨c,u⟩:=y;have hm:=h.el _ (zU hy);obtain⟨A,cc,hu⟩:=hm.1.form;simp only at hu;subst hu;have key:=fun (j:Nat) (hj:j<13) (u:Value) (hu:(eM (c,D A c.ch.length cc))[j]?=some u)=>h.own.cell (fun y _=>rfl) hy hj hu;exact⟨c,A,cc,hy,hm.1,hm.2,key 0 (by omega) _ rfl,key 1 (by omega) _ rfl,key 2 (by omega) _ rfl,key 3 (by omega) _ rfl,key 4 (by omega) _ rfl,key 5 (by omega) _ rfl,key 6 (by omega) _ rfl,key 7 (by omega) _ rfl,key 8 (by omega) _ rfl,key 9 (by omega) _ rfl,key 10 (by omega) _ rfl,key 11 (by omega) _ rfl,key 12 (by omega) _ rfl⟩
structure fc (p:Nat) (w wx:World) (sb:Nat×Array Value×TypeId) (g:Nat) (v:Value) (ys:List (aF×Value)) (c:aF) (A:Option Addr) (cc:Nat):Prop where
 fr:Fr p w wx [sb,(g,#[B C c.st.t,B C c.st.s,B C c.st.q,B C c.kind,.string (ba c.str),B C c.cont,D A c.ch.length cc,B C c.tgt.s,B C c.tgt.q,B C c.lab.p,B C c.lab.c,B C c.lab.g,B C c.lab.v],111)]
 row:aq w.heap.size wx v ys
 ch:eY wx w.heap.size (D A c.ch.length cc) c.ch
 ok:fK c
 ap:v.ownBlock≠some g
section
variable {p:Nat} {w wx w':World} {sb:Nat×Array Value×TypeId} {g:Nat} {v:Value} {ys:List (aF×Value)} {c c':aF} {A A':Option Addr} {cc cc':Nat}
theorem fc.step(h:fc p w wx sb g v ys c A cc)(hx:XT p wx w')(ht:bt w' p):fc p w w' sb g v ys c A cc :=
 ⟨h.fr.step hx ht,h.row.xt hx h.fr.hp,h.ch.xt hx h.fr.hp,h.ok,h.ap⟩
theorem fc.ext(h:fc p w wx sb g v ys c A cc)(hx:ab wx w'):fc p w w' sb g v ys c A cc:=h.step hx.xt (h.fr.tp.ext hx)
theorem fc.upd(h:fc p w wx sb g v ys c A cc)(i:Nat)(vs:List Value)(hf:Fr p w (cZ wx g i vs) [sb,(g,#[B C c'.st.t,B C c'.st.s,B C c'.st.q,B C c'.kind,.string (ba c'.str),B C c'.cont,D A' c'.ch.length cc',B C c'.tgt.s,B C c'.tgt.q,B C c'.lab.p,B C c'.lab.c,B C c'.lab.g,B C c'.lab.v],111)])(hc:eY wx w.heap.size (D A' c'.ch.length cc') c'.ch)(hk:fK c') :
  fc p w (cZ wx g i vs) sb g v ys c' A' cc' :=
 ⟨hf,h.row.sets (h.fr.at_ 1 rfl) (by decide) h.ap i vs,eo hc (h.fr.at_ 1 rfl) (by decide) i vs,hk,h.ap⟩
theorem fc.cells(h:fc p w wx sb g v ys c A cc):wx.cell? ⟨g,0,none⟩=some (B C c.st.t)∧wx.cell? ⟨g,1,none⟩=some (B C c.st.s)∧wx.cell? ⟨g,2,none⟩=some (B C c.st.q)∧wx.cell? ⟨g,3,none⟩=some (B C c.kind)∧wx.cell? ⟨g,4,none⟩=some (.string (ba c.str))∧wx.cell? ⟨g,5,none⟩=some (B C c.cont)∧wx.cell? ⟨g,6,none⟩=some (D A c.ch.length cc)∧wx.cell? ⟨g,7,none⟩=some (B C c.tgt.s)∧wx.cell? ⟨g,8,none⟩=some (B C c.tgt.q)∧wx.cell? ⟨g,9,none⟩=some (B C c.lab.p)∧wx.cell? ⟨g,10,none⟩=some (B C c.lab.c)∧wx.cell? ⟨g,11,none⟩=some (B C c.lab.g)∧wx.cell? ⟨g,12,none⟩=some (B C c.lab.v) :=
 have b:=h.fr.at_ 1 rfl;⟨b.c 0 rfl,b.c 1 rfl,b.c 2 rfl,b.c 3 rfl,b.c 4 rfl,b.c 5 rfl,b.c 6 rfl,b.c 7 rfl,b.c 8 rfl,b.c 9 rfl,b.c 10 rfl,b.c 11 rfl,b.c 12 rfl⟩
end
theorem sZ{w':World}{sb:Nat×Array Value×TypeId}{v v':Value}{ys:List (aF×Value)}{y:aF×Value}(hr:aq w.heap.size wx v ys)(hf:Fr p w wx [sb])(hsb:sb.2.2≠111)(hg:wx.grownBy w' v.ownBlock)(ho:w'.ownsRow w.heap.size 111 13 v' (ys.length+1) ((ys.map eM).flatten++eM y))(hc:eY wx w.heap.size y.2 y.1.ch)(hk:fK y.1):aq w.heap.size w' v' (ys++[y])∧Fr p w w' [sb]:=by
 refine⟨hr.push hg ho hc hk,hf.grown hg (fun k x hx=>?_) (ar hr.own)⟩;obtain rfl:x=sb:=by
  cases k with
  |zero=>simpa using hx.symm
  |succ k=>simp at hx
 exact ex hr.own (hf.at_ 0 (b:=x.1) (cs:=x.2.1) (t:=x.2.2) rfl) hsb
end Go.Proofs.YtjgfgdcaocbfhaaGreat

