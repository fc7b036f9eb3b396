import Derived.Shelf.SortG.Plain
import Derived.Shelf.SortG.SortNone
import Derived.Shelf.SlicesG.CompactI
import Derived.Lib.SlicesCompact
import Derived.Test.YtjgfgdcaocbfhaaGreatRefF
set_option linter.all false
set_option maxRecDepth 100000
set_option maxHeartbeats 0
namespace Go.Proofs.YtjgfgdcaocbfhaaGreat
open Go.Value renaming int→B,slice→D
open Go.IntKind renaming i64→C
open Go.RowKit
def av(w:World)(base:Nat)(v:Value)(l:List Int):Prop:=w.ownsRow base 3 1 v l.length (l.map (Value.int .i64))∧(∀x∈l,aC x)∧l.length≤1000000
section
variable {p base:Nat} {w w':World} {v:Value} {l:List Int}
theorem av.xt(h:av w base v l)(hx:XT p w w')(hp:p<base):av w' base v l:=⟨dJ h.1 hx hp,h.2⟩
theorem av.ext(h:av w base v l)(hx:ab w w'):av w' base v l:=⟨ac h.1 hx,h.2⟩
theorem av.base_{b:Nat}(h:av w base v l)(hb:b≤base):av w b v l:=⟨bo h.1 hb,h.2⟩
theorem av.isI(h:av w base v l)(hp:p<base):ao p w v l:=ao.of_own h.1 hp h.2.1 (by have:=h.2.2;omega)
theorem av.form(h:av w base v l):∃A c,v=D A l.length c:=by
 rcases h.1.2 with ⟨e,h0⟩|⟨g,cap,cur,e,_⟩
 ·exact⟨none,0,by rw[e,h0]⟩
 ·exact⟨_,_,e⟩
theorem av.apart{b e size n:Nat}{z:Value}{xs:List Value}(h:av w base v l)(ho:w.ownsRow b e size z n xs)(he:3≠e)(hg:w.grownBy w' z.ownBlock):av w' base v l :=
 ⟨aE h.1 hg fun k hk e'=>bE h.1 ho he k hk e',h.2⟩
theorem av.far{g:Nat}{cs:Array Value}{t:TypeId}(h:av w base v l)(hb:Bk w g cs t)(ht:t≠3)(i:Nat)(u:Value):av (w.setCell ⟨g,i,none⟩ u) base v l :=
 ⟨bm (a:=⟨g,i,none⟩) h.1 (ex h.1 hb ht) u,h.2⟩
theorem av.sets{g:Nat}{cs:Array Value}{t:TypeId}(h:av w base v l)(hb:Bk w g cs t)(ht:t≠3)(i:Nat)(vs:List Value):av (cZ w g i vs) base v l:=by
 induction vs generalizing w cs i with
 |nil=>exact h
 |cons u vs ih=>exact ih (h.far hb ht i u) (hb.set i u) (i+1)
theorem av.nil(w:World)(base:Nat):av w base (D none 0 0) []:=⟨yW _ _ _ _,by simp,by simp⟩
end
theorem ae.grownT{w wx w':World}{L:BL}{base e size n:Nat}{v:Value}{xs:List Value}(h:ae w wx L)(ho:wx.ownsRow base e size v n xs)(hg:wx.grownBy w' v.ownBlock)(hb:w.heap.size≤base)(hne:(L.all fun x=>x.2.2 != e)=true):ae w w' L :=
 h.grown hg (fun k x hk=>ex ho (h.bl.bk k x.1 x.2.1 x.2.2 hk).2 (by have:=yS.1 hne x (zU hk);simpa using this)) (fun k hk=>yL hb (ar ho k hk))
structure dq {α:Type} (base e size:Nat) (f:α→List Value) (ok:World→α→Prop) (w:World) (v:Value) (ys:List α):Prop where
 own:aL base e size f w v ys
 el:∀y∈ys,ok w y
section
variable {α:Type} {p base e size:Nat} {f:α→List Value} {ok:World→α→Prop} {w w':World} {v v':Value} {ys:List α}
theorem dq.nil(ok:World→α→Prop)(w:World):dq base e size f ok w (D none 0 0) ([]:List α):=⟨aL.nil,fun y h=>by simp at h⟩
theorem dq.ext(h:dq base e size f ok w v ys)(hs:∀y,ok w y→ok w' y)(hx:ab w w'):dq base e size f ok w' v ys:=⟨h.own.ext hx,fun y hy=>hs y (h.el y hy)⟩
theorem dq.push{y:α}(h:dq base e size f ok w v ys)(ho:w'.ownsRow base e size v' (ys.length+1) ((ys.map f).flatten++f y))(hs:∀y,ok w y→ok w' y)(hy:ok w' y):dq base e size f ok w' v' (ys++[y]) :=
 ⟨aL.push ho,fun z hz=>by
  rcases zC.1 hz with hz|hz
  ·exact hs z (h.el z hz)
  ·obtain rfl:z=y:=by simpa using hz
   exact hy⟩
theorem dq.form(h:dq base e size f ok w v ys):∃A c,v=D A ys.length c:=h.own.form
theorem dq.isS{β:Type}{R:World→List Value→β→Prop}(g:α→β)(h:dq base e size f ok w v ys)(hp:p<base)(hsz:0<size)(hf:∀y∈ys,(f y).length=size)(hR:∀y∈ys,ok w y→R w (f y) (g y)):bg p size R w v (ys.map g):=by
 refine bg.of_own (e:=e) (ys.map f) (fun cs hcs=>by obtain⟨y,hy,rfl⟩:=zJ.1 hcs;exact hf y hy) hsz (by simp) (by rw[zM];exact h.own) hp ?_;intro k cs x hcs hx;simp only[zL,yI]at hcs hx;obtain⟨y,hy,rfl⟩:=hcs;obtain⟨z,hz,rfl⟩:=hx;rw[hy]at hz;injection hz with hz;subst hz
 exact hR y (zU hy) (h.el y (zU hy))
end
end Go.Proofs.YtjgfgdcaocbfhaaGreat

namespace Go.Proofs.YtjgfgdcaocbfhaaGreat
open Go.Value renaming int→B,slice→D
open Go.IntKind renaming i64→C
open Go.Shelf Go.Proofs
def sK:Go.Shelf.Ren:=⟨fun|53=>102|64=>128|63=>127|78=>164|79=>165|70=>155|71=>156|72=>157|73=>158|74=>159|75=>160|59=>161|76=>162|77=>163|88=>166|89=>167|90=>168|91=>169|92=>170|68=>113|96=>171|n=>n,fun|22=>22|23=>3|3=>3|51=>167|0=>0|67=>191|69=>194|4=>4|61=>212|60=>211|44=>129|5=>5|9=>9|75=>220|79=>224|83=>226|84=>227|n=>n,fun|n=>n⟩
theorem Bw:Go.Proofs.SlLaysN.n53 Tryz.prog sK:={
 mixed:=by kernel_rfl
 f53:=⟨Tryz.f102.name,by decide,Tryz.func102.trans (congrArg some (by kernel_rfl))⟩
 f59:=⟨Tryz.f161.name,by decide,Tryz.func161.trans (congrArg some (by kernel_rfl))⟩
 f63:=⟨Tryz.f127.name,by decide,Tryz.func127.trans (congrArg some (by kernel_rfl))⟩
 f64:=Tryz.func128.trans (congrArg some (by kernel_rfl))
 f68:=⟨Tryz.f113.name,by decide,Tryz.func113.trans (congrArg some (by kernel_rfl))⟩
 f70:=⟨Tryz.f155.name,by decide,Tryz.func155.trans (congrArg some (by kernel_rfl))⟩
 f71:=⟨Tryz.f156.name,by decide,Tryz.func156.trans (congrArg some (by kernel_rfl))⟩
 f72:=⟨Tryz.f157.name,by decide,Tryz.func157.trans (congrArg some (by kernel_rfl))⟩
 f73:=⟨Tryz.f158.name,by decide,Tryz.func158.trans (congrArg some (by kernel_rfl))⟩
 f74:=⟨Tryz.f159.name,by decide,Tryz.func159.trans (congrArg some (by kernel_rfl))⟩
 f75:=⟨Tryz.f160.name,by decide,Tryz.func160.trans (congrArg some (by kernel_rfl))⟩
 f76:=⟨Tryz.f162.name,by decide,Tryz.func162.trans (congrArg some (by kernel_rfl))⟩
 f77:=⟨Tryz.f163.name,by decide,Tryz.func163.trans (congrArg some (by kernel_rfl))⟩
 f78:=Tryz.func164.trans (congrArg some (by kernel_rfl))
 f79:=Tryz.func165.trans (congrArg some (by kernel_rfl))
 f88:=⟨Tryz.f166.name,by decide,Tryz.func166.trans (congrArg some (by kernel_rfl))⟩
 f89:=Tryz.func167.trans (congrArg some (by kernel_rfl))
 f90:=Tryz.func168.trans (congrArg some (by kernel_rfl))
 f91:=⟨Tryz.f169.name,by decide,Tryz.func169.trans (congrArg some (by kernel_rfl))⟩
 f92:=⟨Tryz.f170.name,by decide,Tryz.func170.trans (congrArg some (by kernel_rfl))⟩
 f96:=⟨Tryz.f171.name,by decide,Tryz.func171.trans (congrArg some (by kernel_rfl))⟩
 t0:=Tryz.underlying0
 a0:=Tryz.isAgg0
 z0:=Tryz.sizeOf0
 v0:=Tryz.zeroValue0
 t3:=Tryz.underlying3
 a3:=Tryz.isAgg3
 z3:=Tryz.sizeOf3
 v3:=Tryz.zeroValue3
 t4:=Tryz.underlying4
 a4:=Tryz.isAgg4
 z4:=Tryz.sizeOf4
 v4:=Tryz.zeroValue4
 t5:=Tryz.underlying5
 a5:=Tryz.isAgg5
 z5:=Tryz.sizeOf5
 v5:=Tryz.zeroValue5
 t9:=Tryz.underlying9
 a9:=Tryz.isAgg9
 z9:=Tryz.sizeOf9
 v9:=Tryz.zeroValue9
 t22:=Tryz.underlying22
 a22:=Tryz.isAgg22
 z22:=Tryz.sizeOf22
 v22:=Tryz.zeroValue22
 t23:=Tryz.underlying3
 a23:=Tryz.isAgg3
 z23:=Tryz.sizeOf3
 v23:=Tryz.zeroValue3
 t44:=Tryz.underlying129
 a44:=Tryz.isAgg129
 z44:=Tryz.sizeOf129
 v44:=Tryz.zeroValue129
 t51:=Tryz.underlying167
 a51:=Tryz.isAgg167
 z51:=Tryz.sizeOf167
 v51:=Tryz.zeroValue167
 t60:=Tryz.underlying211
 a60:=Tryz.isAgg211
 z60:=Tryz.sizeOf211
 v60:=Tryz.zeroValue211
 t61:=Tryz.underlying212
 a61:=Tryz.isAgg212
 z61:=Tryz.sizeOf212
 v61:=Tryz.zeroValue212
 t67:=Tryz.underlying191
 a67:=Tryz.isAgg191
 z67:=Tryz.sizeOf191
 v67:=Tryz.zeroValue191
 t69:=Tryz.underlying194
 a69:=Tryz.isAgg194
 z69:=Tryz.sizeOf194
 v69:=Tryz.zeroValue194
 t75:=Tryz.underlying220
 a75:=Tryz.isAgg220
 z75:=Tryz.sizeOf220
 v75:=Tryz.zeroValue220
 t79:=Tryz.underlying224
 a79:=Tryz.isAgg224
 z79:=Tryz.sizeOf224
 v79:=Tryz.zeroValue224
 t83:=Tryz.underlying226
 a83:=Tryz.isAgg226
 z83:=Tryz.sizeOf226
 v83:=Tryz.zeroValue226
 t84:=Tryz.underlying227
 a84:=Tryz.isAgg227
 z84:=Tryz.sizeOf227
 v84:=Tryz.zeroValue227 }
def pA:Go.Shelf.Ren:=⟨fun|43=>103|n=>n,fun|22=>22|23=>3|3=>3|4=>4|0=>0|n=>n,fun|n=>n⟩
theorem pB:Go.Proofs.SlLaysN.n43 Tryz.prog pA:={
 mixed:=by kernel_rfl
 f43:=⟨Tryz.f103.name,by decide,Tryz.func103.trans (congrArg some (by kernel_rfl))⟩
 t0:=Tryz.underlying0
 a0:=Tryz.isAgg0
 z0:=Tryz.sizeOf0
 v0:=Tryz.zeroValue0
 t3:=Tryz.underlying3
 a3:=Tryz.isAgg3
 z3:=Tryz.sizeOf3
 v3:=Tryz.zeroValue3
 t4:=Tryz.underlying4
 a4:=Tryz.isAgg4
 z4:=Tryz.sizeOf4
 v4:=Tryz.zeroValue4
 t22:=Tryz.underlying22
 a22:=Tryz.isAgg22
 z22:=Tryz.sizeOf22
 v22:=Tryz.zeroValue22
 t23:=Tryz.underlying3
 a23:=Tryz.isAgg3
 z23:=Tryz.sizeOf3
 v23:=Tryz.zeroValue3
 i23:=by kernel_rfl }
end Go.Proofs.YtjgfgdcaocbfhaaGreat

namespace Go.Proofs.YtjgfgdcaocbfhaaGreat
open Go.Value renaming int→B,slice→D
open Go.IntKind renaming i64→C
open Go.RowKit
variable {p:Nat}
theorem mP(d:Array Int)(hs:∀a b,a≤b→b<d.size→d[a]! ≤ d[b]!):∀m,m≤d.size→fB eW (Lib.compactUpTo d m)∧(∀z,z∈Lib.compactUpTo d m↔∃j,j<m∧d[j]! = z)
 |0,_=>⟨List.Pairwise.nil,fun z=>by simp[Lib.compactUpTo]⟩
 |m+1,hm=>by
  obtain⟨h1,h2⟩:=mP d hs m (by omega);rw[Lib.compactUpTo_succ];cases hk:Lib.keeps d m with
  |true =>
   rw[if_pos rfl];have hk':m=0∨d[m]! ≠ d[m-1]! := by unfold Lib.keeps at hk;exact of_decide_eq_true hk
   refine⟨h1.snoc fun z hz=>?_,fun z=>?_⟩
   ·obtain⟨j,hj,rfl⟩:=(h2 z).1 hz;unfold eW;simp only[decide_eq_true_eq];rcases hk' with e|e
    ·omega
    ·have a:=hs j (m-1) (by omega) (by omega);have b:=hs (m-1) m (by omega) (by omega);omega
   ·rw[zC,h2];constructor
    ·rintro (⟨j,hj,e⟩|e)
     ·exact⟨j,by omega,e⟩
     ·exact⟨m,by omega,(List.mem_singleton.1 e).symm⟩
    ·rintro⟨j,hj,e⟩;rcases zV j m with h|h
     ·exact .inl ⟨j,h,e⟩
     ·obtain rfl:j=m:=by omega
      exact .inr (by rw[e];exact List.mem_singleton.2 rfl)
  |false =>
   have hk':¬(m=0∨d[m]! ≠ d[m-1]!):=by unfold Lib.keeps at hk;exact of_decide_eq_false hk
   rw[if_neg (by simp),xU];refine⟨h1,fun z=>?_⟩;rw[h2];constructor
   ·rintro⟨j,hj,e⟩;exact⟨j,by omega,e⟩
   ·rintro⟨j,hj,e⟩;rcases zV j m with h|h
    ·exact⟨j,h,e⟩
    ·obtain rfl:j=m:=by omega
     refine⟨j-1,by omega,?_⟩;rw[←e];exact (Decidable.not_not.1 fun h=>hk' (.inr h)).symm
theorem rV(l:List Int):Lib.compact (l.mergeSort fun x y=>decide (x≤y))=mF eW l:=by
 have hp:(l.mergeSort fun x y=>decide (x≤y)).Perm l:=List.mergeSort_perm l _;have hs:(l.mergeSort fun x y=>decide (x≤y)).Pairwise fun x y=>decide (x≤y)=true:=List.pairwise_mergeSort (fun a b c h1 h2=>by simp only[decide_eq_true_eq]at *;omega) (fun a b=>by simp;omega) l;obtain⟨zs,hz⟩:=nm (l.mergeSort fun x y=>decide (x≤y));rw[←hz]at hp hs⊢;have hd:∀a b,a≤b→b<zs.toArray.size→zs.toArray[a]! ≤ zs.toArray[b]! := by
  intro a b hab hb;have hb':b<zs.length:=by simpa using hb
  rcases zV a b with h|h
  ·have:=wN.1 hs a b (by omega) hb' h;simp only[decide_eq_true_eq]at this;rw[getElem!_pos zs.toArray a (by simp;omega),getElem!_pos zs.toArray b hb];simpa using this
  ·obtain rfl:a=b:=by omega
   exact Int.le_refl _
 have h:=mP zs.toArray hd zs.toArray.size (zX _);unfold Lib.compact;have e:zs.length=zs.toArray.size:=by simp
 rw[e];refine (Cf Gj h.1 fun z=>?_).symm;rw[h.2,←hp.mem_iff];constructor
 ·rintro⟨j,hj,rfl⟩;rw[getElem!_pos zs.toArray j hj];simp
 ·intro hm;obtain⟨j,hj,e⟩:=List.mem_iff_getElem.1 hm;exact⟨j,by simpa using hj,by rw[getElem!_pos zs.toArray j (by simpa using hj)];simpa using e⟩
def jz{α:Type}(xs:List α)(cf:α→Int)(i:Nat)(b:Bool):Prop:=i≤xs.length∧(b=true→∃x,xs[i]?=some x∧cf x=0)∧(b=false→∀x∈xs,cf x≠0)
structure j8 {α:Type} (xs:List α) (cf:α→Int):Prop where
 lo:∀(a b:Nat) x y,a<b→xs[a]?=some x→xs[b]?=some y→cf y≤0→cf x<0
 hi:∀(a b:Nat) x y,a<b→xs[a]?=some x→xs[b]?=some y→0≤cf x→0<cf y
theorem sB{α:Type}{lt:α→α→Bool}{xs:List α}{cf:α→Int}(h:fB lt xs)(h1:∀x y,lt x y=true→cf y≤0→cf x<0)(h2:∀x y,lt x y=true→0≤cf x→0<cf y):j8 xs cf :=
 ⟨fun _ _ x y hab hx hy=>h1 x y (h.at_ hx hy hab),fun _ _ x y hab hx hy=>h2 x y (h.at_ hx hy hab)⟩
structure nw {α:Type} (xs:List α) (cf:α→Int) (lo hi:Nat):Prop where
 le:lo≤hi
 len:hi≤xs.length
 low:∀(t:Nat) x,t<lo→xs[t]?=some x→cf x<0
 high:∀(t:Nat) x,hi≤t→xs[t]?=some x→0≤cf x
section
variable {α:Type} {xs:List α} {cf:α→Int} {lo hi h:Nat} {x:α}
theorem nw.start(xs:List α)(cf:α→Int):nw xs cf 0 xs.length:=⟨by omega,by omega,fun t x ht=>by omega,fun t x ht hx=>by have:=(zY.1 hx).1;omega⟩
theorem nw.up(b:nw xs cf lo hi)(m:j8 xs cf)(h1:h<hi)(hx:xs[h]?=some x)(hc:cf x<0):nw xs cf (h+1) hi :=
 ⟨h1,b.len,fun t y ht hy=>by
  rcases zV t h with k|k
  ·exact m.lo t h y x k hy hx (by omega)
  ·obtain rfl:t=h:=by omega
   rw[hx]at hy;injection hy with hy;subst hy;exact hc,b.high⟩
theorem nw.down(b:nw xs cf lo hi)(m:j8 xs cf)(h1:lo≤h)(h2:h<hi)(hx:xs[h]?=some x)(hc:0≤cf x):nw xs cf lo h :=
 ⟨h1,by have:=b.len;omega,b.low,fun t y ht hy=>by
  rcases zV h t with k|k
  ·have:=m.hi h t x y k hx hy hc;omega
  ·obtain rfl:t=h:=by omega
   rw[hx]at hy;injection hy with hy;subst hy;exact hc⟩
theorem nw.hit(b:nw xs cf lo lo)(hx:xs[lo]?=some x)(hc:cf x=0):jz xs cf lo true:=⟨b.len,fun _=>⟨x,hx,hc⟩,fun h=>by cases h⟩
theorem nw.miss(b:nw xs cf lo lo)(m:j8 xs cf)(hx:∀y,xs[lo]?=some y→cf y≠0):jz xs cf lo false:=by
 refine⟨b.len,(fun h=>by cases h),fun _ y hy=>?_⟩;obtain⟨t,ht⟩:=yZ hy;rcases xK t lo with k|k|k
 ·have:=b.low t y k ht;omega
 ·subst k;exact hx y ht
 ·obtain⟨z,hz⟩:∃z,xs[lo]?=some z:=⟨_,zW (by have:=(zY.1 ht).1;omega)⟩
  have h1:=b.high lo z (zX _) hz;have:=m.hi lo t z y k hz ht h1;omega
theorem jz.find{f:α→Bool}{b:Bool}{i:Nat}(h:jz xs cf i b)(m:j8 xs cf)(hf:∀x∈xs,f x=true↔cf x=0):(b=true→∃x,xs[i]?=some x∧xs.find? f=some x)∧(b=false→xs.find? f=none):=by
 refine⟨fun hb=>?_,fun hb=>?_⟩
 ·obtain⟨x,hx,hc⟩:=h.2.1 hb;refine⟨x,hx,iY hx ((hf x (zU hx)).2 hc) fun j y hj hy=>?_⟩;have:=m.lo j i y x hj hy hx (by omega);cases e:f y with
  |false=>rfl
  |true=>have:=(hf y (zU hy)).1 e;omega
 ·refine lT fun j y hy=>?_;have:=h.2.2 hb y (zU hy);cases e:f y with
  |false=>rfl
  |true=>exact absurd ((hf y (zU hy)).1 e) this
end
open _root_.Go.Proofs.Tryz
noncomputable def kQ(s:aZ):Int:=if s.bk.length≠s.pap.length then 1 else if (List.range s.pap.length).all (iA s)=false then 1 else 0
theorem ER{s:aZ}(h:s.bk.length≠s.pap.length):kQ s=1:=by unfold kQ;rw[if_pos h]
theorem k7{s:aZ}{k:Nat}(h:s.bk.length=s.pap.length)(hk:k<s.pap.length)(hg:iA s k=false):kQ s=1:=by unfold kQ;rw[if_neg (by simp[h]),if_pos (xR.2 ⟨k,zB.2 hk,by simp[hg]⟩)]
theorem F6{s:aZ}(h:s.bk.length=s.pap.length)(hg:∀j,j<s.pap.length→iA s j=true):kQ s=0:=by unfold kQ;rw[if_neg (by simp[h]),fV hg];simp
theorem yj{s:aZ}(h1:0≤s.num∧s.num≤31)(h2:1≤s.pap.length∧s.pap.length≤4∧s.xp.length≤60):(kQ s≠0→aw s=kQ s) ∧
  (kQ s=0→aw s=if s.xp.all (sx s.pap.length)=false then 2 else if (List.range (s.xp.length-1)).all (j6 s.xp)=false then 5 else 0):=by
 unfold kQ;by_cases h3:s.bk.length=s.pap.length
 ·rw[if_neg (by simp[h3])];cases h4:(List.range s.pap.length).all (iA s) with
  |false=>rw[if_pos rfl];exact⟨fun _=>ir h1 h2 h3 h4,fun h=>by omega⟩
  |true=>rw[if_neg (by simp)];exact⟨fun h=>by omega,fun _=>kK h1 h2 h3 h4⟩
 ·rw[if_pos h3];exact⟨fun _=>tz h1 h2 h3,fun h=>by omega⟩
theorem zr(s:aZ):kQ s=0∨kQ s=1:=by
 unfold kQ;split
 ·exact .inr rfl
 ·split
  ·exact .inr rfl
  ·exact .inl rfl
theorem m9(s:aZ)(AP AB AX:Option Addr)(nP cP nB cB nX cX:Nat)(w:World)(hP:hY p w (D AP nP cP) s.pap)(hB:gm p w (D AB nB cB) s.bk) :
  Calls prog 99 #[.agg #[B C s.num,D AP nP cP,D AB nB cB,D AX nX cX]] w fun e w'=>e=.returned (B C (kQ s))∧ab w w':=by
 have HLP:=zZ (show s.pap.length=nP from by obtain⟨_,_,e,_⟩:=hP;injection e with _ e _;exact e.symm);have HLB:=zZ (show s.bk.length=nB from by obtain⟨_,_,e,_⟩:=hB;injection e with _ e _;exact e.symm);have hb1:nP≤9223372036854775807:=by obtain⟨_,_,e,h1,h2,_⟩:=hP;injection e with _ e _;omega
 have hb2:nB≤9223372036854775807:=by obtain⟨_,_,e,h1,h2,_⟩:=hB;injection e with _ e _;omega
 have HR0:Bx (hY p w (D AP nP cP) s.pap∧gm p w (D AB nB cB) s.bk):=⟨⟨hP,hB⟩⟩
 clear hP hB;obtain⟨w1,hw1⟩:=nm ((w.alloc (.cells #[B C s.num,D AP nP cP,D AB nB cB,D AX nX cX] 27)):World);have HF:Bx (ae w w1 [(w.heap.size,#[B C s.num,D AP nP cP,D AB nB cB,D AX nX cX],27)]):=⟨by rw[hw1];exact (ae.start w).push _ _ rfl⟩
 go_enter func99,ntmps99
 go_upto_region 1 with (fail)
 rw[←hw1];clear hw1;obtain⟨z0,z1,z2,z3⟩:=(HF.out.at_ 0 rfl).p4 rfl;by_cases c3:nB=nP;case neg =>
  have c3b:((nB:Int)!=(nP:Int))=true:=by simp;omega
  have HE:=zZ (ER (s:=s) (by rw[HLP.out,HLB.out];exact c3));go_wp2_with fail;all_goals first
   |(exfalso;omega)
   |(go_ret;exact⟨ah HE.out.symm,HF.out.xt⟩)
 subst c3;have HLL:Bx (s.bk.length=s.pap.length):=⟨by rw[HLP.out,HLB.out]⟩
 go_wp2_with fail;clear z0 z1 z2 z3;go_loopw [15] (fun s15 wr=>∃k:Nat,s15=B C k∧k≤nB∧Bx (ae w wr [(w.heap.size,#[B C s.num,D AP nB cP,D AB nB cB,D AX nX cX],27)]∧∀j,j<k→iA s j=true)) (fun k _=>nB-(intOf k).toNat)
 case atStart=>exact⟨0,rfl,by omega,⟨⟨HF.out,fun j hj=>by omega⟩⟩⟩
 case round =>
  obtain⟨k,rfl,hk,HR⟩:=hrel;clear HF;by_cases hkn:k<nB
  ·obtain⟨bP,oP,_,_,rfl,-⟩:=HR0.out.1.at_ hkn;obtain⟨bB,oB,_,_,rfl,-⟩:=HR0.out.2.at_ hkn;have hqk:s.pap[k]?=some (s.pap[k]'(by have:=HLP.out;omega)):=zW _;have hbk:s.bk[k]?=some (s.bk[k]'(by have:=HLB.out;omega)):=zW _;generalize s.pap[k]'(by have:=HLP.out;omega)=q at hqk;generalize s.bk[k]'(by have:=HLB.out;omega)=bk at hbk;obtain⟨Aq,nq,cq,q0,q1,q2,hIQ,hq1,hq2⟩:=gj HR0.out.1 hqk HR.out.1.xt.xt;obtain⟨Ab,nb,cb,b0,hIB,-⟩:=dQ HR0.out.2 hbk HR.out.1.xt.xt;obtain⟨qc,qv,qs⟩:=q;simp only at q0 q1 q2 hIQ hq1 hq2;have HG:=zZ (Bg hqk hbk);have HA:Bx (∀j,j<k→iA s j=true):=⟨HR.out.2⟩
   have HIQ:Bx (kr p wr (D Aq nq cq) qs∧kL p wr (D Ab nb cb) bk):=⟨⟨hIQ,hIB⟩⟩
   have HFr:Bx (ae w wr [(w.heap.size,#[B C s.num,D (some ⟨bP,oP,none⟩) nB cP,D (some ⟨bB,oB,none⟩) nB cB,D AX nX cX],27)]):=⟨HR.out.1⟩
   have hkl:k<s.pap.length:=by have:=HLP.out;omega
   have HKL:=zZ hkl;clear hIQ hIB hqk hbk HR hkl;go_upto_region 6 with (fail)
   have HF2:Bx (ae w (wr.alloc (.cells #[B C qc,B C qv,D Aq nq cq] 89)) [(w.heap.size,#[B C s.num,D (some ⟨bP,oP,none⟩) nB cP,D (some ⟨bB,oB,none⟩) nB cB,D AX nX cX],27),(wr.heap.size,#[B C qc,B C qv,D Aq nq cq],89)]):=⟨HFr.out.push _ _ rfl⟩
   have HI:Bx (kr p (wr.alloc (.cells #[B C qc,B C qv,D Aq nq cq] 89)) (D Aq nq cq) qs∧kL p (wr.alloc (.cells #[B C qc,B C qv,D Aq nq cq] 89)) (D Ab nb cb) bk):=⟨⟨HIQ.out.1.ext (aI.stab p) ((zE _).alloc _),HIQ.out.2.ext (RI.stab p) ((zE _).alloc _)⟩⟩
   replace b0:=((zE wr).alloc (.cells #[B C qc,B C qv,D Aq nq cq] 89)).cell b0;obtain⟨w2,hw2⟩:=nm ((wr.alloc (.cells #[B C qc,B C qv,D Aq nq cq] 89)):World);rw[←hw2]at HF2 HI b0;rw[←hw2];clear hw2 q0 q1 q2 HFr HIQ;obtain⟨gp,hgp⟩:=nm wr.heap.size;rw[←hgp]at HF2;rw[←hgp];clear hgp;have s0:=(HF2.out.at_ 0 rfl).c 0 rfl;have s2:=(HF2.out.at_ 0 rfl).c 2 rfl;obtain⟨p0,p1,p2⟩:=(HF2.out.at_ 1 rfl).p3 rfl;refine zQ 99 fun wd kS=>?_;refine zS 1 [(0,20)] kS ?_;(apply zT;exact⟨rfl,rfl⟩;(·intro wk hk;have:=hk.cell s0;have:=hk.cell s2;have:=hk.cell p0;have:=hk.cell p1;have:=hk.cell p2;have:=hk.cell b0;go_simp;try with_reducible rfl);simp only[kA];exact rfl);refine zN (zO 1 (fun K hK=>?_));go_simp;refine (gu qc qv _ qs _ (p:=p) (HI.out.1.ext (aI.stab p) kS)).mono ?_;rintro e w3 ⟨rfl,hx3⟩;have kS2:ab w2 w3:=kS.trans hx3;clear hx3;cases h1:d9 qc qv qs with
   |false =>
    have HE:=zZ (k7 HLL.out HKL.out (by rw[HG.out,h1];rfl));replace h1:=zZ h1;refine hK.out _ _ (fun _=>kS2) ?_;clear hK K;try simp only[kA]
    refine zS 24 [(2,22),(3,23),(4,24),(5,25),(6,26),(7,27),(8,28),(9,29),(10,30),(11,31),(12,32),(13,33),(14,34),(15,35),(16,36),(17,37),(18,38),(19,39),(20,40),(21,41),(22,42),(23,43),(24,44),(25,45)] kS2 ?_;iterate 2 (apply zT;exact⟨rfl,rfl⟩;(·intro wk hk;have:=hk.cell s0;have:=hk.cell s2;have:=hk.cell p0;have:=hk.cell p1;have:=hk.cell p2;have:=hk.cell b0;go_simp;try with_reducible rfl);simp only[kA];exact rfl)
    iterate 5 (apply zK;exact⟨rfl,rfl⟩;simp only[kA];exact rfl)
    iterate 2 (apply zT;exact⟨rfl,rfl⟩;(·intro wk hk;have:=hk.cell s0;have:=hk.cell s2;have:=hk.cell p0;have:=hk.cell p1;have:=hk.cell p2;have:=hk.cell b0;go_simp;try with_reducible rfl);simp only[kA];exact rfl)
    iterate 4 (apply zK;exact⟨rfl,rfl⟩;simp only[kA];exact rfl)
    iterate 2 (apply zT;exact⟨rfl,rfl⟩;(·intro wk hk;have:=hk.cell s0;have:=hk.cell s2;have:=hk.cell p0;have:=hk.cell p1;have:=hk.cell p2;have:=hk.cell b0;go_simp;try with_reducible rfl);simp only[kA];exact rfl)
    iterate 8 (apply zK;exact⟨rfl,rfl⟩;simp only[kA];exact rfl)
    (apply zT;exact⟨rfl,rfl⟩;(·intro wk hk;have:=hk.cell s0;have:=hk.cell s2;have:=hk.cell p0;have:=hk.cell p1;have:=hk.cell p2;have:=hk.cell b0;go_simp;try with_reducible rfl);simp only[kA];exact rfl);refine zN (zD ?_);go_wp2_with fail;go_ret
    exact⟨ah HE.out.symm,HF2.out.xt.trans kS2⟩
   |true =>
    by_cases h2:qc=s.num;case neg =>
     have h2b:(qc != s.num)=true:=by simp[h2]
     have HE:=zZ (k7 HLL.out HKL.out (by rw[HG.out];simp[h2]));replace h1:=zZ h1;replace h2:=zZ h2;refine hK.out _ _ (fun _=>kS2) ?_;clear hK K;try simp only[kA]
     refine zS 24 [(2,22),(3,23),(4,24),(5,25),(6,26),(7,27),(8,28),(9,29),(10,30),(11,31),(12,32),(13,33),(14,34),(15,35),(16,36),(17,37),(18,38),(19,39),(20,40),(21,41),(22,42),(23,43),(24,44),(25,45)] kS2 ?_;iterate 9 (apply zT;exact⟨rfl,rfl⟩;(·intro wk hk;have:=hk.cell s0;have:=hk.cell s2;have:=hk.cell p0;have:=hk.cell p1;have:=hk.cell p2;have:=hk.cell b0;go_simp;try with_reducible rfl);simp only[kA];exact rfl)
     iterate 4 (apply zK;exact⟨rfl,rfl⟩;simp only[kA];exact rfl)
     iterate 2 (apply zT;exact⟨rfl,rfl⟩;(·intro wk hk;have:=hk.cell s0;have:=hk.cell s2;have:=hk.cell p0;have:=hk.cell p1;have:=hk.cell p2;have:=hk.cell b0;go_simp;try with_reducible rfl);simp only[kA];exact rfl)
     iterate 8 (apply zK;exact⟨rfl,rfl⟩;simp only[kA];exact rfl)
     (apply zT;exact⟨rfl,rfl⟩;(·intro wk hk;have:=hk.cell s0;have:=hk.cell s2;have:=hk.cell p0;have:=hk.cell p1;have:=hk.cell p2;have:=hk.cell b0;go_simp;try with_reducible rfl);simp only[kA];exact rfl);refine zN (zD ?_);go_wp2_with fail;go_ret
     exact⟨ah HE.out.symm,HF2.out.xt.trans kS2⟩
    have h2b:(qc != s.num)=false:=by simp[h2]
    by_cases h3:qv=(k:Int)
    case neg =>
     have h3b:(qv != (k:Int))=true:=by simp[h3]
     have HE:=zZ (k7 HLL.out HKL.out (by rw[HG.out];simp[h3]));replace h1:=zZ h1;replace h2:=zZ h2;replace h3:=zZ h3;refine hK.out _ _ (fun _=>kS2) ?_;clear hK K;try simp only[kA]
     refine zS 24 [(2,22),(3,23),(4,24),(5,25),(6,26),(7,27),(8,28),(9,29),(10,30),(11,31),(12,32),(13,33),(14,34),(15,35),(16,36),(17,37),(18,38),(19,39),(20,40),(21,41),(22,42),(23,43),(24,44),(25,45)] kS2 ?_;iterate 15 (apply zT;exact⟨rfl,rfl⟩;(·intro wk hk;have:=hk.cell s0;have:=hk.cell s2;have:=hk.cell p0;have:=hk.cell p1;have:=hk.cell p2;have:=hk.cell b0;go_simp;try with_reducible rfl);simp only[kA];exact rfl)
     iterate 8 (apply zK;exact⟨rfl,rfl⟩;simp only[kA];exact rfl)
     (apply zT;exact⟨rfl,rfl⟩;(·intro wk hk;have:=hk.cell s0;have:=hk.cell s2;have:=hk.cell p0;have:=hk.cell p1;have:=hk.cell p2;have:=hk.cell b0;go_simp;try with_reducible rfl);simp only[kA];exact rfl);refine zN (zD ?_);go_wp2_with fail;go_ret
     exact⟨ah HE.out.symm,HF2.out.xt.trans kS2⟩
    have h3b:(qv != (k:Int))=false:=by simp[h3]
    replace h1:=zZ h1;replace h2:=zZ h2;replace h3:=zZ h3;refine hK.out _ _ (fun _=>kS2) ?_;clear hK K;try simp only[kA]
    refine zS 21 [(2,22),(3,23),(4,24),(5,25),(6,26),(7,27),(8,28),(9,29),(10,30),(11,31),(12,32),(13,33),(14,34),(15,35),(16,36),(17,37),(18,38),(19,39),(20,40),(21,41),(22,42)] kS2 ?_;iterate 21 (apply zT;exact⟨rfl,rfl⟩;(·intro wk hk;have:=hk.cell s0;have:=hk.cell s2;have:=hk.cell p0;have:=hk.cell p1;have:=hk.cell p2;have:=hk.cell b0;go_simp;try with_reducible rfl);simp only[kA];exact rfl)
    refine zN (zO 23 (fun K hK=>?_));go_simp;refine (gT qc qv _ _ qs bk _ (p:=p) (HI.out.1.ext (aI.stab p) kS2) (HI.out.2.ext (RI.stab p) kS2)).mono ?_;rintro e w4 ⟨rfl,hx4⟩;have kS3:ab w2 w4:=kS2.trans hx4;clear hx4;cases h4:eU qc qv qs bk with
    |false =>
     have HE:=zZ (k7 HLL.out HKL.out (by rw[HG.out,h4];simp));replace h4:=zZ h4;refine hK.out _ _ (fun _=>kS3) ?_;clear hK K;try simp only[kA]
     refine zS 2 [(24,44),(25,45)] kS3 ?_;iterate 2 (apply zT;exact⟨rfl,rfl⟩;(·intro wk hk;have:=hk.cell s0;have:=hk.cell s2;have:=hk.cell p0;have:=hk.cell p1;have:=hk.cell p2;have:=hk.cell b0;go_simp;try with_reducible rfl);simp only[kA];exact rfl)
     refine zN (zD ?_);go_wp2_with fail;go_ret
     exact⟨ah HE.out.symm,HF2.out.xt.trans kS3⟩
    |true =>
     have HT:=zZ (show iA s k=true by rw[HG.out,h1.out,h4,decide_eq_true h2.out,decide_eq_true h3.out];rfl);replace h4:=zZ h4;refine hK.out _ _ (fun _=>kS3) ?_;clear hK K;try simp only[kA]
     refine zS 2 [(24,44),(25,45)] kS3 ?_;iterate 2 (apply zT;exact⟨rfl,rfl⟩;(·intro wk hk;have:=hk.cell s0;have:=hk.cell s2;have:=hk.cell p0;have:=hk.cell p1;have:=hk.cell p2;have:=hk.cell b0;go_simp;try with_reducible rfl);simp only[kA];exact rfl)
     refine zN (zD ?_);have HF9:Bx (ae w w4 [(w.heap.size,#[B C s.num,D (some ⟨bP,oP,none⟩) nB cP,D (some ⟨bB,oB,none⟩) nB cB,D AX nX cX],27)]):=⟨(HF2.out.ext kS3).take 1⟩
     clear kS kS2 kS3 s0 s2 p0 p1 p2 b0 h2b h3b HF2;go_wp2_with fail;go_roundw
     case rel=>exact⟨k+1,by go_num,by omega,⟨⟨HF9.out,fun j hj=>by rcases zV j k with h|h;exact HA.out j h;obtain rfl:j=k:=(by omega);exact HT.out⟩⟩⟩
     case measure=>simp[intOf];omega
  ·obtain rfl:nB=k:=by omega
   have HE:=zZ (F6 HLL.out fun j hj=>HR.out.2 j (by have:=HLP.out;omega));have HF9:=zZ HR.out.1.xt;clear HR;go_wp2_with fail;go_ret
   exact⟨ah HE.out.symm,HF9.out⟩
theorem qe(v:Value)(s:aZ)(w:World)(hs:aN p w v s) :
  Calls prog 63 #[v] w fun e w'=>e=.returned (B C (aw s))∧ab w w':=by
 obtain⟨vP,vB,vX,rfl,hP,hB,hX,hnum⟩:=hs;obtain⟨AP,nP,cP,rfl,hnP,hcP,hmP,HLP⟩:=hP.open_;obtain⟨AB,nB,cB,rfl,hnB,hcB,hmB,HLB⟩:=hB.open_;obtain⟨AX,nX,cX,rfl,hnX,hcX,hmX,HLX⟩:=hX.open_;have HR0:Bx (hY p w (D AP nP cP) s.pap∧gm p w (D AB nB cB) s.bk∧d7 p w (D AX nX cX) s.xp):=⟨⟨hP,hB,hX⟩⟩
 obtain⟨hm1,hm2⟩:=hnum;clear hP hB hX;by_cases c1:0≤s.num∧s.num≤31;case neg =>
  have HE:=zZ (qE c1);go_enter func63,ntmps63
  go_wp2_with fail;all_goals first
   |(exfalso;omega)
   |(go_ret;exact⟨ah HE.out.symm,(zE _).alloc _⟩)
 obtain⟨n1,n2⟩:=c1;by_cases c2:1≤nP∧nP≤4∧nX≤60;case neg =>
  have HE:=zZ (ro (s:=s) ⟨n1,n2⟩ (by rw[HLP.out,HLX.out];exact c2));go_enter func63,ntmps63
  go_wp2_with fail;all_goals first
   |(exfalso;omega)
   |(go_ret;exact⟨ah HE.out.symm,(zE _).alloc _⟩)
 obtain⟨p1,p2,x1⟩:=c2;have HC3:=zZ (yj (s:=s) ⟨n1,n2⟩ (by rw[HLP.out,HLX.out];exact⟨p1,p2,x1⟩));obtain⟨w1,hw1⟩:=nm ((w.alloc (.cells #[B C s.num,D AP nP cP,D AB nB cB,D AX nX cX] 27)):World);have HF:Bx (ae w w1 [(w.heap.size,#[B C s.num,D AP nP cP,D AB nB cB,D AX nX cX],27)]):=⟨by rw[hw1];exact (ae.start w).push _ _ rfl⟩
 obtain⟨z0,z1,z2,z3⟩:=(HF.out.at_ 0 rfl).p4 rfl;go_enter func63,ntmps63
 go_upto_region 1 with (fail)
 rw[←hw1];clear hw1;go_upto_region 5 with (fail)
 go_wp2_with fail;refine (m9 s AP AB AX nP cP nB cB nX cX _ (p:=p) (HR0.out.1.ext (uQ.stab p) HF.out.xt) (HR0.out.2.1.ext (GE.stab p) HF.out.xt)).mono ?_;rintro e w2 ⟨rfl,hx2⟩;have HF2:=bx (HF.out.ext hx2);clear HF hx2 z0 z1 z2 z3;rcases zr s with c3|c3;case inr =>
  have HE:=zZ (HC3.out.1 (by omega));rw[c3]at HE⊢;go_wp2_with fail;go_ret
  exact⟨ah HE.out.symm,HF2.out.xt⟩
 have HCR:=zZ (HC3.out.2 c3);rw[c3];clear HC3 c3;obtain⟨z0,z1,z2,z3⟩:=(HF2.out.at_ 0 rfl).p4 rfl;go_wp2_with fail;clear z0 z1 z2 z3;go_loopw [39] (fun s4 wr=>∃k:Nat,s4=B C k∧k≤nX∧Bx (ae w wr [(w.heap.size,#[B C s.num,D AP nP cP,D AB nB cB,D AX nX cX],27)]∧∀(j:Nat) x,j<k→s.xp[j]?=some x→sx s.pap.length x=true)) (fun k _=>nX-(intOf k).toNat)
 case atStart=>exact⟨0,rfl,by omega,⟨⟨HF2.out,fun j x hj=>by omega⟩⟩⟩
 case round =>
  clear HF2;obtain⟨i,rfl,hi,HR⟩:=hrel;obtain⟨z0,z1,z2,z3⟩:=(HR.out.1.at_ 0 rfl).p4 rfl;by_cases hin:i<nX
  ·obtain⟨bX,oX,_,_,rfl,-⟩:=HR0.out.2.2.at_ hin;obtain⟨xc,xe,xv,HX,x0,x1,x2⟩:=d7.read HR0.out.2.2 HR.out.1.xt.xt hin;have HXG:Bx (sx s.pap.length ⟨xc,xe,xv⟩=decide (0≤xc∧xc≤9999∧1≤xe∧xe≤99∧0≤xv∧xv<(nP:Int))):=⟨by unfold sx;rw[HLP.out]⟩
   have hx9:ab wr (wr.alloc (.cells #[B C xc,B C xe,B C xv] 83)):=(zE _).alloc _;have HF9:=bx (HR.out.1.ext hx9);have HA:Bx (∀(j:Nat) x,j<i→s.xp[j]?=some x→sx s.pap.length x=true):=⟨HR.out.2⟩
   obtain⟨y0,y1,y2,y3⟩:=(HF9.out.at_ 0 rfl).p4 rfl;clear HR hx9;by_cases hg:0≤xc∧xc≤9999∧1≤xe∧xe≤99∧0≤xv∧xv<(nP:Int)
   ·obtain⟨g1,g2,g3,g4,g5,g6⟩:=hg;have HT:=zZ (show sx s.pap.length ⟨xc,xe,xv⟩=true by rw[HXG.out];exact decide_eq_true ⟨g1,g2,g3,g4,g5,g6⟩);go_wp2_with fail;go_roundw
    case rel=>exact⟨i+1,by go_num,by omega,⟨⟨HF9.out,fun j y hj hy=>by rcases zV j i with h|h;exact HA.out j y h hy;obtain rfl:j=i:=(by omega);rw[HX.out]at hy;injection hy with hy;subst hy;exact HT.out⟩⟩⟩
    case measure=>simp[intOf];omega
   ·have HE:=zZ (show aw s=2 by
     rw[HCR.out,if_pos];exact xR.2 ⟨⟨xc,xe,xv⟩,zU HX.out,by rw[HXG.out,decide_eq_false hg];simp⟩)
    go_wp2_with fail;all_goals first
     |(exfalso;omega)
     |(go_ret;exact⟨ah HE.out.symm,HF9.out.xt⟩)
  ·obtain rfl:nX=i:=by omega
   have HXA:=zZ (show s.xp.all (sx s.pap.length)=true from yS.2 fun y hy=>by obtain⟨j,hj⟩:=yZ hy;exact HR.out.2 j y (by have:=(zY.1 hj).1;have:=HLX.out;omega) hj)
   have HF2:Bx (ae w wr [(w.heap.size,#[B C s.num,D AP nP cP,D AB nB cB,D AX nX cX],27)]):=⟨HR.out.1⟩
   clear HR;go_wp2_with fail;clear z0 z1 z2 z3;go_loopw [6] (fun s6 wr=>∃k:Nat,s6=B C k∧1≤k∧(k≤nX∨k=1)∧Bx (ae w wr [(w.heap.size,#[B C s.num,D AP nP cP,D AB nB cB,D AX nX cX],27)]∧∀j,j+1<k→j6 s.xp j=true)) (fun k _=>nX+1-(intOf k).toNat)
   case atStart=>exact⟨1,rfl,by omega,by omega,⟨⟨HF2.out,fun j hj=>by omega⟩⟩⟩
   case round =>
    clear HF2;obtain⟨m,rfl,hm0,hm1,HR⟩:=hrel;obtain⟨z0,z1,z2,z3⟩:=(HR.out.1.at_ 0 rfl).p4 rfl;by_cases hmn:m<nX
    ·obtain⟨bX,oX,_,_,rfl,-⟩:=HR0.out.2.2.at_ hmn;obtain⟨m',hm'⟩:∃m',m'+1=m:=⟨m-1,by omega⟩
     have hmn':m'<nX:=by omega
     obtain⟨xc,xe,xv,HX,x0,-⟩:=d7.read HR0.out.2.2 HR.out.1.xt.xt hmn';obtain⟨yc,ye,yv,HY,y0,-⟩:=d7.read HR0.out.2.2 HR.out.1.xt.xt hmn;have HAG:=zZ (show j6 s.xp m'=decide (xc<yc) by unfold j6;rw[HX.out,show m'+1=m from hm',HY.out]);have hmm1:m'+1≤m:=by omega
     have hmm2:m≤m'+1:=by omega
     clear hm';have m1:IntKind.i64.wrap ((m:Int)-1)=(m':Int):=by rw[yQ _ (by omega)];omega
     go_upto_region 17 with (fail)
     refine zQ 99 fun wd kS=>?_;refine zS 14 [(0,82),(1,83),(2,84),(3,85),(4,86),(5,87),(6,88),(7,89),(8,90),(9,91),(10,92),(11,93),(12,94),(13,95)] kS ?_;iterate 14 (apply zT;exact⟨rfl,rfl⟩;(·intro wk hk;have:=hk.cell z3;have:=hk.cell x0;have:=hk.cell y0;go_simp;try with_reducible rfl);simp only[kA];exact rfl)
     refine zN (zD ?_);have HF3:=bx (HR.out.1.ext kS);have HA:Bx (∀j,j+1<m→j6 s.xp j=true):=⟨HR.out.2⟩
     clear m1 kS z0 z1 z2 z3 HR;by_cases hxy:xc<yc
     ·have HT:=zZ (show j6 s.xp m'=true by rw[HAG.out];exact decide_eq_true hxy);go_wp2_with fail;go_roundw
      case rel=>exact⟨m+1,by go_num,by omega,by omega,⟨⟨HF3.out,fun j hj=>by rcases zV (j+1) m with h|h;exact HA.out j h;obtain rfl:j=m':=(by omega);exact HT.out⟩⟩⟩
      case measure=>simp[intOf];omega
     ·have HE:=zZ (show aw s=5 by
       rw[HCR.out,if_neg (by rw[HXA.out];simp),if_pos];exact xR.2 ⟨m',zB.2 (by have:=HLX.out;omega),by rw[HAG.out,decide_eq_false hxy];simp⟩)
      go_wp2_with fail;go_ret
      exact⟨ah HE.out.symm,HF3.out.xt⟩
    ·have HE:=zZ (show aw s=0 by
      rw[HCR.out,if_neg (by rw[HXA.out];simp),if_neg];rw[fV fun j hj=>HR.out.2 j (by have:=HLX.out;omega)];simp)
     go_wp2_with fail;go_ret
     exact⟨ah HE.out.symm,HR.out.1.xt⟩
theorem qT(a:Int)(w:World):Calls prog 113 #[B C a] w fun e w'=>e=.returned (.bool false)∧w=w':=by
 have h:(a != a)=false:=by simp
 go_enter func113,ntmps113
 go_wp2
 go_ret
 exact⟨rfl,rfl⟩
theorem jY(a b:Int)(w:World):Calls prog 84 #[B C a,B C b] w fun e w'=>e=.returned (B C (aR a b))∧w=w':=by
 go_enter func84,ntmps84
 go_wp2_with fail;refine (qT a _).mono ?_;rintro e w1 ⟨rfl,rfl⟩;go_wp2_with fail;refine (qT b _).mono ?_;rintro e w1 ⟨rfl,rfl⟩;rcases aT a b with ⟨h,e⟩|⟨h,e⟩|⟨h,e⟩
 ·go_wp2
  go_ret
  exact⟨ah e.symm,rfl⟩
 ·subst h;have h1:decide (a<a)=false:=decide_eq_false (Int.lt_irrefl a);go_wp2
  go_ret
  exact⟨ah e.symm,rfl⟩
 ·have h1:decide (a<b)=false:=decide_eq_false (by omega);have h2:decide (b<a)=true:=decide_eq_true h;go_wp2
  go_ret
  exact⟨ah e.symm,rfl⟩
def nz(x:Int):Bool:=decide (x≠0)
theorem G8(v:Value)(l:List Int)(w:World)(h:ao p w v l):Calls prog 100 #[v] w fun e w'=>e=.returned (B C ((l.find? nz).getD 0))∧w=w':=by
 obtain⟨A,n,c,rfl,hnc,hc,hnn,HL⟩:=h.open_;have H:=zZ h;clear h;go_enter func100,ntmps100
 go_wp2
 go_loop [8] (fun i=>∃k:Nat,k≤n∧i=B C k∧Hid (∀(j:Nat) y,j<k→l[j]?=some y→nz y=false)) (fun i=>n-(intOf i).toNat)
 case atStart=>exact⟨0,yK _,rfl,fun j y hj=>by omega⟩
 case round =>
  obtain⟨k,hk,rfl,HK⟩:=hrel;by_cases hlt:k<n
  ·obtain⟨b,off,y,rfl,hcy,HY,hy1,hy2⟩:=H.out.at_ hlt;by_cases e:y=0
   ·have e1:(y != 0)=false:=by simp[e]
    have E:=zZ e;clear e;go_wp2
    go_round
    case rel=>exact⟨k+1,by omega,by go_num,fun j z hj hz=>by
     rcases zV j k with h|h
     ·exact HK.out j z h hz
     ·obtain rfl:j=k:=by omega
      rw[HY.out]at hz;injection hz with hz;subst hz;unfold nz;simp[E.out]⟩
    case measure=>simp[intOf];omega
   ·have e1:(y != 0)=true:=by simp[e]
    have E:=zZ e;clear e;go_wp2
    go_ret
    exact⟨ah (by rw[iY HY.out (by unfold nz;simp[E.out]) (HK.out)];rfl),rfl⟩
  ·obtain rfl:k=n:=by omega
   go_wp2
   go_ret
   exact⟨ah (by rw[lT (fun j y hy=>HK.out j y (by have:=(zY.1 hy).1;have:=HL.out;omega) hy)];rfl),rfl⟩
def dT(a b c d:Int):Int:=if aR a c≠0 then aR a c else aR b d
theorem Bj(a b c d:Int):(([aR a c,aR b d]:List Int).find? nz).getD 0=dT a b c d:=by
 unfold dT nz;by_cases h:aR a c=0
 ·by_cases h2:aR b d=0<;>simp[h,h2]
 ·simp[h]
theorem bY(a b c d:Int):((a<c∨(a=c∧b<d))∧dT a b c d=-1)∨((a=c∧b=d)∧dT a b c d=0)∨((c<a∨(a=c∧d<b))∧dT a b c d=1):=by unfold dT;rcases aT a c with ⟨h,e⟩|⟨h,e⟩|⟨h,e⟩<;>rcases aT b d with ⟨h',e'⟩|⟨h',e'⟩|⟨h',e'⟩<;>rw[e,e']<;>simp<;>omega
theorem nK(a b:Int):-1≤aR a b∧aR a b≤1:=by rcases aT a b with ⟨h,e⟩|⟨h,e⟩|⟨h,e⟩<;>omega
theorem Ba(x y:Int)(w:World)(g c:Nat)(hx:-1≤x∧x≤1)(hy:-1≤y∧y≤1)(h:Bk w g #[B C x,B C y] 3):Calls prog 100 #[D (some ⟨g,0,none⟩) 2 2] w fun e w'=>e=.returned (B C (([x,y].find? nz).getD 0))∧w=w':=by
 refine G8 (p:=g+1) _ [x,y] w ⟨some ⟨g,0,none⟩,2,rfl,zX _,by decide,by simp,fun z hz=>?_,fun k z hz=>?_⟩
 ·simp only[yG,wK,or_false]at hz;rcases hz with rfl|rfl<;>constructor<;>omega
 ·match k,hz with
  |0,hz=>simp at hz;subst hz;exact⟨g,0,rfl,by omega,h.c 0 rfl⟩
  |1,hz=>simp at hz;subst hz;exact⟨g,0,rfl,by omega,h.c 1 rfl⟩
  |k+2,hz=>simp at hz
theorem ip(c g ct s q c' g':Int)(A:Option Addr)(n cc:Nat)(w:World) :
  Calls prog 65 #[.agg #[B C c,B C g,B C ct,D A n cc,B C s,B C q],B C c',B C g'] w fun e w'=>e=.returned (B C (dT c g c' g'))∧ab w w':=by
 have HF:Bx (ae w (w.alloc (.cells #[B C c,B C g,B C ct,D A n cc,B C s,B C q] 77)) [(w.heap.size,#[B C c,B C g,B C ct,D A n cc,B C s,B C q],77)]):=⟨(ae.start w).push _ _ rfl⟩
 go_enter func65,ntmps65
 go_upto_region 1 with (fail)
 obtain⟨w1,hw1⟩:=nm ((w.alloc (.cells #[B C c,B C g,B C ct,D A n cc,B C s,B C q] 77)):World);rw[←hw1]at HF;rw[←hw1];clear hw1;obtain⟨b0,b1⟩:=(HF.out.at_ 0 rfl).p2 rfl;refine zQ 10 fun wd kS=>?_;refine zS 6 [(0,7),(1,8),(2,9),(4,11),(5,12),(6,13)] kS ?_;iterate 6 (apply zT;exact⟨rfl,rfl⟩;(·intro wk hk;have:=hk.cell b0;have:=hk.cell b1;go_simp;try with_reducible rfl);simp only[kA];exact rfl)
 refine zN (zO 3 (fun K hK=>?_))
 ·go_simp;refine (jY c c' _).mono ?_;rintro e w2 ⟨rfl,rfl⟩;refine hK.out _ _ (fun _=>kS) ?_;clear hK K;try simp only[kA]
  refine zO 7 (fun K hK=>?_);go_simp;refine (jY g g' _).mono ?_;rintro e w2 ⟨rfl,rfl⟩;refine hK.out _ _ (fun _=>kS) ?_;clear hK K;try simp only[kA]
  refine zO 8 (fun K hK=>?_);go_simp;have hq:ab w1 (wd.alloc (.cells #[B C (aR c c'),B C (aR g g')] 3)):=kS.alloc _;have hb:Bk (wd.alloc (.cells #[B C (aR c c'),B C (aR g g')] 3)) wd.heap.size #[B C (aR c c'),B C (aR g g')] 3:=Bk.new wd _ _;refine hK.out _ _ (fun _=>(hq)) ?_;clear hK K;try simp only[kA]
  refine zO 9 (fun K hK=>?_);go_simp;refine (Ba _ _ _ _ 2 (nK _ _) (nK _ _) hb).mono ?_;rintro e w2 ⟨rfl,rfl⟩;rw[Bj];refine hK.out _ _ (fun _=>(hq)) ?_;clear hK K;try simp only[kA]
  refine zO 10 (fun K hK=>?_);go_simp;refine hK.out _ _ (fun h=>absurd rfl h) ?_;clear hK K;refine zD ?_;go_wp2_with fail;go_ret
  exact⟨rfl,HF.out.xt.trans hq⟩
theorem iD(c g c' g':Int)(w:World) :
  Calls prog 68 #[.agg #[B C c,B C g],.agg #[B C c',B C g']] w fun e w'=>e=.returned (B C (dT c g c' g'))∧ab w w':=by
 have HF:Bx (ae w ((w.alloc (.cells #[B C c,B C g] 71)).alloc (.cells #[B C c',B C g'] 71)) [(w.heap.size,#[B C c,B C g],71),(w.heap.size+1,#[B C c',B C g'],71)]):=⟨((ae.start w).push _ _ rfl).push _ _ (by simp)⟩
 go_enter func68,ntmps68
 go_upto_region 1 with (fail)
 obtain⟨w1,hw1⟩:=nm (((w.alloc (.cells #[B C c,B C g] 71)).alloc (.cells #[B C c',B C g'] 71)):World);rw[←hw1]at HF;rw[←hw1];clear hw1;obtain⟨b0,b1⟩:=(HF.out.at_ 0 rfl).p2 rfl;obtain⟨b2,b3⟩:=(HF.out.at_ 1 rfl).p2 rfl;refine zQ 12 fun wd kS=>?_;refine zS 8 [(0,5),(1,6),(2,7),(3,8),(5,10),(6,11),(7,12),(8,13)] kS ?_;iterate 8 (apply zT;exact⟨rfl,rfl⟩;(·intro wk hk;have:=hk.cell b0;have:=hk.cell b1;have:=hk.cell b2;have:=hk.cell b3;go_simp;try with_reducible rfl);simp only[kA];exact rfl)
 refine zN (zO 4 (fun K hK=>?_))
 ·go_simp;refine (jY c c' _).mono ?_;rintro e w2 ⟨rfl,rfl⟩;refine hK.out _ _ (fun _=>kS) ?_;clear hK K;try simp only[kA]
  refine zO 9 (fun K hK=>?_);go_simp;refine (jY g g' _).mono ?_;rintro e w2 ⟨rfl,rfl⟩;refine hK.out _ _ (fun _=>kS) ?_;clear hK K;try simp only[kA]
  refine zO 10 (fun K hK=>?_);go_simp;have hq:ab w1 (wd.alloc (.cells #[B C (aR c c'),B C (aR g g')] 3)):=kS.alloc _;have hb:Bk (wd.alloc (.cells #[B C (aR c c'),B C (aR g g')] 3)) wd.heap.size #[B C (aR c c'),B C (aR g g')] 3:=Bk.new wd _ _;refine hK.out _ _ (fun _=>(hq)) ?_;clear hK K;try simp only[kA]
  refine zO 11 (fun K hK=>?_);go_simp;refine (Ba _ _ _ _ 2 (nK _ _) (nK _ _) hb).mono ?_;rintro e w2 ⟨rfl,rfl⟩;rw[Bj];refine hK.out _ _ (fun _=>(hq)) ?_;clear hK K;try simp only[kA]
  refine zO 12 (fun K hK=>?_);go_simp;refine hK.out _ _ (fun h=>absurd rfl h) ?_;clear hK K;refine zD ?_;go_wp2_with fail;go_ret
  exact⟨rfl,HF.out.xt.trans hq⟩
theorem tC(a b d c:Int)(w:World):Calls prog 83 #[.agg #[B C a,B C b,B C d],B C c] w fun e w'=>e=.returned (B C (aR a c))∧ab w w':=by
 go_enter func83,ntmps83
 go_wp2_with fail;refine (jY a c _).mono ?_;rintro e w1 ⟨rfl,rfl⟩;go_wp2_with fail;go_ret
 exact⟨rfl,(zE _).alloc _⟩
theorem uH(a b d c:Int)(w:World):Calls prog 124 #[.agg #[B C a,B C b,B C d],B C c] w fun e w'=>e=.returned (B C (aR a c))∧ab w w':=by
 go_enter func124,ntmps124
 go_wp2_with fail;refine (jY a c _).mono ?_;rintro e w1 ⟨rfl,rfl⟩;go_wp2_with fail;go_ret
 exact⟨rfl,(zE _).alloc _⟩
theorem ul(xc xg xt xs xq c g:Int)(A:Option Addr)(n cc:Nat)(w:World):Calls prog 79 #[.agg #[B C xc,B C xg,B C xt,D A n cc,B C xs,B C xq],.agg #[B C c,B C g]] w fun e w'=>e=.returned (B C (dT xc xg c g))∧ab w w':=by
 go_enter func79,ntmps79
 go_wp2_with fail;refine (ip xc xg xt xs xq c g A n cc _).mono ?_;rintro e w1 ⟨rfl,hx⟩;go_wp2_with fail;go_ret
 exact⟨rfl,(((zE _).alloc _).alloc _).trans hx⟩
theorem uD(xs xq xt xa xb xc xd c g:Int)(w:World):Calls prog 67 #[.agg #[B C xs,B C xq,B C xt,B C xa,B C xb,B C xc,B C xd],.agg #[B C c,B C g]] w fun e w'=>e=.returned (B C (dT xs xq c g))∧ab w w':=by
 go_enter func67,ntmps67
 go_wp2_with fail;refine (iD xs xq c g _).mono ?_;rintro e w1 ⟨rfl,hx⟩;go_wp2_with fail;go_ret
 exact⟨rfl,(((zE _).alloc _).alloc _).trans hx⟩
end Go.Proofs.YtjgfgdcaocbfhaaGreat

