import Derived.Test.YtpaidaphacoblaaGreatDoorK22
import Derived.Test.YtpaidaphacoblaaGreatDoorK23
set_option linter.all false
set_option maxRecDepth 100000
set_option maxHeartbeats 0
namespace Go.Proofs.YtpaidaphacoblaaGreatDoor
open Go.RowKit _root_.Go.Proofs.Tryz
variable {w:World} {A:Option Addr} {c n:Nat} {P:Program}
theorem bj.takeFull{α:Type}{p size:Nat}{R:World->List Value->α->Prop}{k:Nat}{xs:List α}(h:bj p size R w (.slice A n c) xs)(hk:k<=n):bj p size R w (.slice A k k) (xs.take k):=by
 have hl:=h.len;obtain⟨A',c',hv,h1,h2,h4⟩:=h;injection hv with ha hn hc;subst ha;subst hc;have hlk:(xs.take k).length=k:=by rw[yW];omega
 refine⟨_,k,by rw[hlk],by omega,by omega,fun i x hx=>h4 i x ?_⟩;have hi:=(zY.1 hx).1;rw[List.getElem?_take_of_lt (by omega)]at hx;exact hx
theorem bj.flat{α:Type}{p size:Nat}{f:α->List Value}{xs:List α}(h:bj p size (fun _ cs x=>cs=f x) w (.slice A n c) xs)(hsz:0<size):(n=0\/∃b:Addr,A=some b/\∀j u,(xs.map f).flatten[j]?=some u->w.cell? (b.add j)=some u)/\(xs.map f).flatten.length=n*size:=by
 have hl:=h.len;obtain⟨A',c',hv,h1,h2,h4⟩:=h;injection hv with ha hn hc;subst ha;have hf:∀x∈xs,(f x).length=size:=fun x hx=>by obtain⟨k,hk⟩:=zH hx;obtain⟨b,off,cs,_,_,hcl,_,rfl⟩:=h4 k x hk;exact hcl
 have hfl:(xs.map f).flatten.length=n*size:=by rw[jB (size:=size) (fun cs hc=>by obtain⟨x,hx,rfl⟩:=zF.1 hc;exact hf x hx),zJ,hl]
 refine⟨?_,hfl⟩;rcases vE n with h0|h0
 ·exact .inl h0
 obtain⟨b,off,cs,hA,_,_,_,_⟩:=h4 0 xs[0] (zV (by omega));refine .inr ⟨⟨b,off,none⟩,hA,fun j u hu=>?_⟩;have hj:j<n*size:=by have:=(zY.1 hu).1;omega
 have hq:j/size<n:=Nat.div_lt_of_lt_mul (by rw[wM];exact hj);have hx:xs[j/size]?=some xs[j/size]:=zV (by omega);obtain⟨b',off',cs',hA',_,_,hc',hcs⟩:=h4 (j/size) _ hx;rw[hA]at hA';injection hA' with hA';injection hA' with e1 e2;subst e1;subst e2;subst hcs;have hr:j%size<size:=xI _ hsz;have hd:j/size*size+j%size=j:=by rw[wM];exact Nat.div_add_mod j size
 have hu2:(f xs[j/size])[j%size]?=some u:=by have:=ll (f:=f) (size:=size) hf hx hr;rw[hd]at this;rw[<-this];exact hu
 have:=hc' _ u hu2;have e:off+j/size*size+j%size=off+j:=by omega
 rw[e]at this;by_cases hz:j=0
 ·subst hz;simpa[Addr.add] using this
 ·simpa[Addr.add,hz] using this
theorem MU(w:World)(t ty e:TypeId)(i:TypeInfo)(z:Value)(size bytes:Nat)(ht:P.underlying t=some (.slice e))(hi:P.info? e=some i)(hz:i.zero=some z)(hsize:i.size=size)(hby:i.bytes=bytes)(hzs:z.cells.size=size)(A:Option Addr)(n:Nat)(olds:List Value)(hol:olds.length=n*size)(hold:n=0\/∃b:Addr,A=some b/\∀j u,olds[j]?=some u->w.cell? (b.add j)=some u)(B:Option Addr)(m c:Nat)(news:List Value)(hnl:news.length=m*size)(hnews:m=0\/∃b:Addr,B=some b/\∀j u,news[j]?=some u->w.cell? (b.add j)=some u)(h63:n+m<=maxLen)(hbytes:(n+m)*bytes<=140737488355328) :
  ∃v' w',(Builtin.append_ #[t,t] ty #[.slice A n n,.slice B m c]).run P w=.ok v' w'/\ab w w'/\((m=0/\v'=.slice A n n/\w'=w)\/∃c',v'=.slice (some ⟨w.heap.size,0,none⟩) (n+m) c'/\w'.ownsRow w.heap.size e size v' (n+m) (olds++news)):=by
 subst hsize;subst hby;have hsmall:n+m<=9223372036854775807:=by simp only[maxLen]at h63;omega
 have hlen:(olds++news).length=(n+m)*i.size:=by rw[yU,hol,hnl,xB]
 have grown:∀(old:Nat),(w.drew.alloc (.cells (olds.toArray++news.toArray++Builtin.zeroCells z.cells (grownCap w (n+m) old e-(n+m))) e)).ownsRow w.heap.size e i.size
    (.slice (some ⟨w.heap.size,0,none⟩) (n+m) (grownCap w (n+m) old e)) (n+m) (olds++news) /\
   ab w (w.drew.alloc (.cells (olds.toArray++news.toArray++Builtin.zeroCells z.cells (grownCap w (n+m) old e-(n+m))) e)):=by
  intro old;have hge:=grownCap_ge w (n+m) old e;have hcm:grownCap w (n+m) old e<=maxLen:=grownCap_le_maxLen w (n+m) old e h63;refine⟨⟨hlen,.inr ⟨w.heap.size,_,_,rfl,zX _,heap_alloc_new w.drew _,hge,hcm,?_,?_⟩⟩,((zE w).drew).alloc _⟩
  ·simp only[Array.size_append,List.size_toArray,size_zeroCells,hzs,hol,hnl,<-xB];congr 1
   omega
  ·simp only[Array.toList_append,xY];rw[<-xY,<-hlen];exact List.take_left
 rcases hnews with h0|⟨b,rfl,hnews⟩
 ·subst h0;refine⟨.slice A n n,w,?_,zE _,.inl ⟨rfl,rfl,rfl⟩⟩;cases A<;>cases B<;>simp[Builtin.append_,run_underlying ht,sizeOf,typeInfo,hi,Builtin.lenOf,Builtin.firstCells,storeCells,loadCells,loadCellsFrom]
 rcases vE m with h0|h0
 ·subst h0;refine⟨.slice A n n,w,?_,zE _,.inl ⟨rfl,rfl,rfl⟩⟩;cases A<;>simp[Builtin.append_,run_underlying ht,sizeOf,typeInfo,hi,Builtin.lenOf,Builtin.firstCells,storeCells,loadCells,loadCellsFrom]
 rcases A with _|ad
 ·have hn:n=0:=by rcases hold with h|⟨b',h,_⟩;exact h;cases h
  subst hn;have ho:olds=[]:=xZ (by simpa using hol);subst ho;have hr:=run_append_nil (P:=P) w t ty e i z ht hi hz b m c news hnl hnews h0 (by omega) (by have hb:=hbytes;simp only[yV]at hb;omega);have hgr:=grown 0;simp only[yV,List.nil_append,Array.empty_append]at hgr⊢;exact⟨_,_,hr,hgr.2,.inr ⟨_,rfl,hgr.1⟩⟩
 ·have hh:∀j u,olds[j]?=some u->w.cell? (ad.add j)=some u:=by
   rcases hold with h|⟨b',h,hh⟩
   ·subst h;have ho:olds=[]:=xZ (by simpa using hol);subst ho;intro j u hj;simp at hj
   ·injection h with h;subst h;exact hh
  have hr:=run_append_grow (P:=P) w t ty e i z ht hi hz ad n n olds hol hh b m c news hnl hnews (by omega) (by omega) (growslice_fits (by omega) hbytes);have hgr:=grown n;exact⟨_,_,hr,hgr.2,.inr ⟨_,rfl,hgr.1⟩⟩
theorem Ou{o:Oper}{a:Act}{K:Act->World->Prop}{Q:Exit->Act->World->Prop}(s x:Operand)(t:TypeId)(ho:o.op=.call { callee:=.builtin .append,args:=#[s,x],argTypes:=#[t,t] }){v':Value}{w':World}{vs vx:Value}(hs:a.eval s=vs)(hx:a.eval x=vx)(hrun:(Builtin.append_ #[t,t] o.type #[vs,vx]).run P w=.ok v' w')(h:K (a.put o.dst v') w'):Oper.wp P o a w K Q:=by
 unfold Oper.wp;simp[execOp,ho,resolve,invoke,builtin,hs,hx,hrun,Result.andThen];exact h
theorem t8{ops:Array Oper}{o:Oper}{a:Act}{K:Act->World->Prop}{Q:Exit->Act->World->Prop}{E:Prop}(hgd:o.guard=none)(s x:Operand)(t:TypeId)(ho:o.op=.call { callee:=.builtin .append,args:=#[s,x],argTypes:=#[t,t] }){v':Value}{w':World}{vs vx:Value}(hs:a.eval s=vs)(hx:a.eval x=vx)(hrun:(Builtin.append_ #[t,t] o.type #[vs,vx]).run P w=.ok v' w')(h:K (a.put o.dst v') w'):if Region.wanted o (yielded ops a.tmps)=true then Oper.wp P o a w K Q else E:=by
 have hw:Region.wanted o (yielded ops a.tmps)=true:=by simp[Region.wanted,hgd]
 rw[if_pos hw];exact Ou s x t ho hs hx hrun h
def Lq(base:Nat):World->List Value->(aj×Value)->Prop:=fun w cs y=>cs=fZ y/\fu w base y.2 y.1.ch/\iu y.1
structure Cr (p base:Nat) (w:World) (v:Value) (ys:List (aj×Value)):Prop where
 rd:bj p 13 (Lq base) w v ys
 kd:ar base w v ys\/∃A n,v=.slice A n n
section
variable {p base:Nat} {w w':World} {v:Value} {ys:List (aj×Value)}
theorem Lq.stab(hp:p<base):lV p (Lq base):=by rintro w w' cs y ⟨h1,h2,h3⟩ e;exact⟨h1,h2.xt e hp,h3⟩
theorem ar.rdC(h:ar base w v ys)(hp:p<base):bj p 13 (Lq base) w v ys:=by
 refine bj.of_own (e:=41) (ys.map fZ) (fun cs hcs=>by obtain⟨y,_,rfl⟩:=zF.1 hcs;rfl) (by decide) (by simp) h.own hp ?_;intro k cs x hcs hx;simp only[zP,yO]at hcs;obtain⟨y,hy,rfl⟩:=hcs;rw[hx]at hy;injection hy with hy;subst hy
 exact⟨rfl,h.el x (zW hx)⟩
theorem Cr.of_row(h:ar base w v ys)(hp:p<base):Cr p base w v ys:=⟨h.rdC hp,.inl h⟩
theorem Cr.xt(h:Cr p base w v ys)(hx:XT p w w')(hp:p<base):Cr p base w' v ys :=
 ⟨h.rd.xt (Lq.stab hp) hx,h.kd.imp (fun k=>k.xt hx hp) id⟩
theorem MM(h:bj p 13 (Lq base) w (.slice A n c) ys):bj p 13 (fun _ cs y=>cs=fZ y) w (.slice A n c) ys:=by obtain⟨A',c',hv,h1,h2,h4⟩:=h;exact⟨A',c',hv,h1,h2,fun k x hx=>by obtain⟨b,off,cs,a1,a2,a3,a4,a5,_⟩:=h4 k x hx;exact⟨b,off,cs,a1,a2,a3,a4,a5⟩⟩
theorem MF(h:bj p 13 (Lq base) w (.slice A n c) ys):∀y∈ys,fu w base y.2 y.1.ch/\iu y.1:=by intro y hy;obtain⟨A',c',hv,h1,h2,h4⟩:=h;obtain⟨k,hk⟩:=zH hy;obtain⟨b,off,cs,a1,a2,a3,a4,a5,a6⟩:=h4 k y hk;exact a6
theorem N8{B:Option Addr}{m:Nat}{xs zs:List (aj×Value)}(ty:TypeId)(hA:bj p 13 (Lq base) w (.slice A n n) xs)(hB:bj p 13 (Lq base) w (.slice B m c) zs)(hp:p<base)(hbw:base<=w.heap.size)(hn:n+m<=1000) :
  ∃v' w',(Builtin.append_ #[31,31] ty #[.slice A n n,.slice B m c]).run prog w=.ok v' w'/\ab w w'/\Cr p base w' v' (xs++zs):=by
 obtain⟨iC,hiC,hC0,hC1,hC2⟩:=info_parts Tryz.infoCap;obtain⟨f1,l1⟩:=bj.flat (MM hA) (by decide);obtain⟨f2,l2⟩:=bj.flat (MM hB) (by decide);obtain⟨v',w',hrun,hx,hcase⟩:=MU (P:=prog) w 31 ty 41 iC _ 13 128 underlying31 hiC hC0 hC1 hC2 rfl A n (xs.map fZ).flatten l1 f1 B m c (zs.map fZ).flatten l2 f2 (by unfold maxLen;omega) (by omega);refine⟨v',w',hrun,hx,?_⟩;have e1:=hA.len;have e2:=hB.len;rcases hcase with ⟨h0,rfl,rfl⟩|⟨c',rfl,ho⟩
 ·have hz:zs=[]:=xZ (by omega);subst hz;rw[xN];exact⟨hA,.inr ⟨_,_,rfl⟩⟩
 ·refine Cr.of_row ⟨?_,fun y hy=>?_⟩ hp
  ·unfold da;rw[yG,List.flatten_append,yU,e1,e2];exact cd ho hbw
  ·rcases zM.1 hy with hy|hy
   ·exact⟨(MF hA y hy).1.ext hx,(MF hA y hy).2⟩
   ·exact⟨(MF hB y hy).1.ext hx,(MF hB y hy).2⟩
theorem NQ{v:Value}{B:Option Addr}{m:Nat}{xs zs:List (aj×Value)}(ty:TypeId)(hA:Cr p base w v xs)(hB:bj p 13 (Lq base) w (.slice B m c) zs)(hp:p<base)(hbw:base<=w.heap.size)(hn:xs.length+m<=1000) :
  ∃v' w',(Builtin.append_ #[31,31] ty #[v,.slice B m c]).run prog w=.ok v' w'/\(∃row,w.grownBy w' row/\(∀k,row=some k->base<=k)/\∀(g:Nat) (cs:Array Value) (t:TypeId),Bk w g cs t->t≠41->row≠some g)/\Cr p base w' v' (xs++zs):=by
 rcases hA.kd with hr|⟨A,n,rfl⟩
 ·obtain⟨iC,hiC,hC0,hC1,hC2⟩:=info_parts Tryz.infoCap;obtain⟨f2,l2⟩:=bj.flat (MM hB) (by decide);have e2:=hB.len;rcases f2 with h0|⟨b,rfl,hb⟩
  ·subst h0;have hz:zs=[]:=xZ e2;subst hz;rw[xN];refine⟨v,w,?_,⟨none,uU _ _,(fun k hk=>by cases hk),(fun g cs t hb ht e=>by cases e)⟩,hA⟩;rcases hr.own.own.2 with ⟨rfl,h0⟩|⟨g,cap,cur,rfl,_,_,hnc,_⟩
   ·cases B<;>simp[Builtin.append_,run_underlying underlying31,sizeOf,typeInfo,hiC,Builtin.lenOf,Builtin.firstCells,storeCells,loadCells,loadCellsFrom]
   ·cases B<;>simp[Builtin.append_,run_underlying underlying31,sizeOf,typeInfo,hiC,Builtin.lenOf,Builtin.firstCells,hnc,storeCells,loadCells,loadCellsFrom]
  ·obtain⟨v',w',hrun,ho,hg,-⟩:=run_append_own (P:=prog) w base 31 ty 41 iC _ 13 128 underlying31 hiC hC0 hC1 hC2 rfl (by omega) v xs.length (xs.map fZ).flatten hr.own.own b m c (zs.map fZ).flatten l2 hb (fun u hu=>by
    obtain⟨cs,hcs,hu⟩:=List.mem_flatten.1 hu;obtain⟨y,_,rfl⟩:=zF.1 hcs;obtain⟨Ay,cy,e⟩:=(MF hB y (by assumption)).1.form;unfold fZ aj.cells at hu;rw[e]at hu;simp only[yM,wL,or_false]at hu;rcases hu with rfl|rfl|rfl|rfl|rfl|rfl|rfl|rfl|rfl|rfl|rfl|rfl|rfl<;>rfl) (by unfold maxLen;omega) (by omega) hbw
   refine⟨v',w',hrun,⟨v.ownBlock,hg,aq hr.own.own,(fun g cs t hb' ht=>aG hr.own.own hb' ht)⟩,?_⟩;have hrow:ar base w' v' (xs++zs):=⟨by
     unfold da;rw[yG,List.flatten_append,yU,e2];exact ho,fun y hy=>by
    rcases zM.1 hy with hy|hy
    ·exact⟨(hr.el y hy).1.apart hr.own (by decide) hg,(hr.el y hy).2⟩
    ·exact⟨(MF hB y hy).1.apart hr.own (by decide) hg,(MF hB y hy).2⟩⟩
   exact Cr.of_row hrow hp
 ·have hln:=hA.rd.len;obtain⟨v',w',hrun,hx,hl⟩:=N8 ty hA.rd hB hp hbw (by omega);exact⟨v',w',hrun,⟨none,⟨hx.os,hx.tape,hx.output,hx.size,fun k hk _=>hx.block k hk⟩,(fun k hk=>by cases hk),(fun g cs t hb ht e=>by cases e)⟩,hl⟩
end
end Go.Proofs.YtpaidaphacoblaaGreatDoor

