import Derived.Test.YtkaajgoeahahpaaGreatDoorH21
import Derived.Test.YtkaajgoeahahpaaGreatDoorH8
import Derived.Deep.SlicePairs
set_option linter.all false
set_option maxRecDepth 100000
set_option maxHeartbeats 0
namespace Go.Proofs.YtkaajgoeahahpaaGreatDoor
open Go.Value renaming int→A
open Go.IntKind renaming i64→B
open Go.ChangeShapes Go.WideShapes Go.ChangeAt Go.RowKit
variable {i t:TypeId} {v:Value}
theorem LL{α β:Type}{P:Nat->β->Prop}:∀(xs:List α),(∀k x,xs[k]?=some x->∃y,P k y)->∃ys:List β,ys.length=xs.length/\∀k y,ys[k]?=some y->P k y:=by
 intro xs;induction xs using ic with
 |h0=>exact fun _=>⟨[],rfl,fun k y h=>by simp at h⟩
 |h1 xs x ih =>
  intro h;obtain⟨ys,h1,h2⟩:=ih fun k y hk=>h k y (by rw[yY (zY.1 hk).1];exact hk);obtain⟨y,hy⟩:=h xs.length x (by simp);refine⟨ys++[y],by simp[h1],fun k z hz=>?_⟩;rcases zU k ys.length with hk|hk
  ·rw[yY hk]at hz;exact h2 k z hz
  ·have:=(zY.1 hz).1;simp at this;obtain rfl:k=ys.length:=by omega
   simp at hz;subst hz;rw[h1];exact hy
section
variable {H:Type} {enc:TypeId×Value->H} {P:Program} {W:World} {sp:Nat->Bool} {held:Bool} {r:Reach} {b0:Nat}
theorem Bu{α:Type}{size:Nat}{R:World->List Value->α->Prop}{e:TypeId}{d:DataW H}{p:List MemPlace}(q:Nat)(hq:W.heap.size<=q)(hu:P.underlying t=some (.slice e))(ce:P.cellsOf e=size)(hsz:0<size)(hel:∀fuel cs x,DataW.trod enc P W 0 sp held fuel e cs=some x->cs.length=size->∃a:α,R W cs a)(hv:Value.okWide P W r b0 t v)(h:DataW.Trod enc P W 0 sp held t v d p):∃xs,bj q size R W v xs:=by
 obtain⟨a,len,cap,rfl⟩:=okWide_slice hu hv;obtain⟨fuel,hf⟩:=h;rcases Go.Deep.open_slice hu hf with ⟨hcs,_⟩|⟨x,l,c,m,n,D,Pl,hcs,_,hl,hm,hmm,_,hrow⟩
 ·simp[Value.cells]at hcs;obtain⟨rfl,rfl,rfl⟩:=hcs;exact⟨[],bj.nil _ _ _ _⟩
 ·simp[Value.cells]at hcs;obtain⟨rfl,rfl,rfl⟩:=hcs;have hm':cap<=9223372036854775807:=hm;have hlm:len<=m:=by rw[hmm];split<;>omega
  obtain⟨ys,hyl,hys⟩:=LL (P:=fun k (y:α)=>∃cs:List Value,cs.length=size/\(∀i,i<size->W.cell? ((x.add (k*size)).add i)=cs[i]?)/\R W cs y) (List.range len) (fun k z hz=>by
   have hk:k<len:=by simpa using (zY.1 hz).1
   obtain⟨cs',h1,h2⟩:=hrow k (by omega);rw[ce]at h1;obtain⟨_,hlen,hcell⟩:=World.cells?_some h1;obtain⟨y,hy⟩:=hel _ _ _ h2 hlen;exact⟨y,cs',hlen,hcell,hy⟩)
  rw[wQ]at hyl;refine⟨ys,some x,cap,by rw[hyl],by omega,hm',fun k y hy=>?_⟩;have hk:=(zY.1 hy).1;obtain⟨cs,hlen,hcell,hr⟩:=hys k y hy;obtain⟨cs0,hlen0,hcell0,-⟩:=hys 0 ys[0] (zV (by omega));have c00:=hcell0 0 hsz;rw[zV (by omega)]at c00;obtain⟨xb,xo,xs⟩:=x;have hs:xs=none:=Jm (show W.cell? ⟨xb,xo,xs⟩=some _ by simpa[Addr.add] using c00);subst hs;have hcc:∀j u,cs[j]?=some u->W.cell? ⟨xb,xo+k*size+j,none⟩=some u:=fun j u hu=>by have hj:=(zY.1 hu).1;have:=hcell j (by omega);rw[fa,fa]at this;rw[this,hu]
  have hlt:=bK (hcc 0 cs[0] (zV (by omega)));exact⟨xb,xo,cs,rfl,by simp at hlt;omega,hlen,hcc,hr⟩
def D5(fs:Array Field)(i:TypeId):Bool:=(List.range fs.size).all fun j=>match fs[j]? with|some f=>decide (f.offset=j)&&decide (f.type=i)|none=>false
theorem JW{cs:List Value}{o n:Nat}{y:DataW H×List MemPlace}(hi:P.underlying i=some (.int .i64))(h:DataW.trod enc P W 0 sp held n i ((cs.drop o).take 1)=some y):∃x,cs[o]?=some (A B x)/\aU x:=by
 obtain⟨x,hx,_,hw⟩:=DataW.trod_int hi h;refine⟨x,?_,oO hw⟩;have h0:((cs.drop o).take 1)[0]?=some (A B x):=by rw[hx];rfl
 rw[yB,if_pos (by omega),vR]at h0;simpa using h0
theorem dv{fs:Array Field}{fuel:Nat}{cs:List Value}{x:DataW H×List MemPlace}(ht:P.underlying t=some (.struct fs))(hi:P.underlying i=some (.int .i64))(ci:P.cellsOf i=1)(hb:D5 fs i=true)(h:DataW.trod enc P W 0 sp held fuel t cs=some x):∀j,j<fs.size->∃x,cs[j]?=some (A B x)/\aU x:=by
 intro j hj;obtain⟨xs,n,_,_,_,hxl,hf⟩:=DataW.trod_struct ht h;have h1:=xS.1 hb j (yX.2 hj);have hfj:fs[j]?=some fs[j]:=xG hj;rw[hfj]at h1;simp only[yT,decide_eq_true_eq]at h1;have h2:=hf j _ hfj;rw[h1.1,h1.2,ci,zV (by omega)]at h2;exact JW hi h2
theorem tT{e tI tL:TypeId}{f0 f1 f2:Field}{fI fL:Array Field}{d:DataW H}{p:List MemPlace}(q:Nat)(hq:W.heap.size<=q)(hu:P.underlying t=some (.slice e))(he:P.underlying e=some (.struct #[f0,f1,f2]))(hI:P.underlying tI=some (.struct fI))(hL:P.underlying tL=some (.struct fL))(hi:P.underlying i=some (.int .i64))(ce:P.cellsOf e=7)(cI:P.cellsOf tI=2)(cL:P.cellsOf tL=4)(ci:P.cellsOf i=1)(o0:f0.offset=0)(o1:f1.offset=2)(o2:f2.offset=3)(t0:f0.type=tI)(t1:f1.type=i)(t2:f2.type=tL)(bI:D5 fI i=true)(bL:D5 fL i=true)(sI:fI.size=2)(sL:fL.size=4)(hv:Value.okWide P W r b0 t v)(h:DataW.Trod enc P W 0 sp held t v d p):∃l,rA q W v l:=by
 refine Bu q hq hu ce (by decide) (fun fuel cs x h hl=>?_) hv h;obtain⟨xs,n,_,_,_,hxl,hf⟩:=DataW.trod_struct he h;have hxl':xs.length=3:=hxl;have h0:=hf 0 f0 rfl;have h1:=hf 1 f1 rfl;have h2:=hf 2 f2 rfl;rw[t0,o0,cI,zV (by omega)]at h0;rw[t1,o1,ci,zV (by omega)]at h1;rw[t2,o2,cL,zV (by omega)]at h2;obtain⟨st,hst,wst⟩:=JW hi h1;obtain⟨a0,ha0,wa0⟩:=dv hI hi ci bI h0 0 (by omega);obtain⟨a1,ha1,wa1⟩:=dv hI hi ci bI h0 1 (by omega);obtain⟨b0,hb0,wb0⟩:=dv hL hi ci bL h2 0 (by omega);obtain⟨b1,hb1,wb1⟩:=dv hL hi ci bL h2 1 (by omega);obtain⟨b2,hb2,wb2⟩:=dv hL hi ci bL h2 2 (by omega);obtain⟨b3,hb3,wb3⟩:=dv hL hi ci bL h2 3 (by omega);match cs,hl with
 |[c0,c1,c2,c3,c4,c5,c6],_ =>
  simp at hst ha0 ha1 hb0 hb1 hb2 hb3;subst hst ha0 ha1 hb0 hb1 hb2 hb3;exact⟨⟨⟨a0,a1⟩,st,⟨b0,b1,b2,b3⟩⟩,rfl,⟨wa0,wa1⟩,wst,wb0,wb1,wb2,wb3⟩
theorem sh{tL:TypeId}{fL:Array Field}{d:DataW H}{p:List MemPlace}(hL:P.underlying tL=some (.struct fL))(hi:P.underlying i=some (.int .i64))(cL:P.cellsOf tL=4)(ci:P.cellsOf i=1)(bL:D5 fL i=true)(sL:fL.size=4)(hv:Value.okWide P W r b0 tL v)(h:DataW.Trod enc P W 0 sp held tL v d p):∃a b c e:Int,v=.agg #[A B a,A B b,A B c,A B e]/\cJ.wf ⟨a,b,c,e⟩:=by
 obtain⟨cs,rfl,hsz⟩:=okWide_struct hL hv;obtain⟨fuel,hf⟩:=h;rw[cL]at hsz;obtain⟨cs⟩:=cs;rw[show (Value.agg ⟨cs⟩).cells.toList=cs from rfl]at hf;have hl:cs.length=4:=hsz;obtain⟨b0,hb0,wb0⟩:=dv hL hi ci bL hf 0 (by omega);obtain⟨b1,hb1,wb1⟩:=dv hL hi ci bL hf 1 (by omega);obtain⟨b2,hb2,wb2⟩:=dv hL hi ci bL hf 2 (by omega);obtain⟨b3,hb3,wb3⟩:=dv hL hi ci bL hf 3 (by omega);match cs,hl with
 |[c0,c1,c2,c3],_ =>
  simp at hb0 hb1 hb2 hb3;subst hb0 hb1 hb2 hb3;exact⟨b0,b1,b2,b3,rfl,wb0,wb1,wb2,wb3⟩
end
end Go.Proofs.YtkaajgoeahahpaaGreatDoor

