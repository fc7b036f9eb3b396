import Derived.Test.YtpaidaphacoblaaGreatDoorK34
import Derived.Maps.Own
import Derived.Maps.AppendAt
import Derived.Shelf.SlSortCmp.NoneTotal
set_option linter.all false
set_option maxRecDepth 100000
set_option maxHeartbeats 0
namespace Go.Proofs.YtpaidaphacoblaaGreatDoor
open Go.RowKit
def Re(t:r6):Prop:=(∀x∈t.sts,1<=x.state/\x.state<=6)/\Lm t.sts=t.pgs.length
theorem qP{α β:Type}{f:α->List β}{m:Nat}:∀(l:List α),(∀x∈l,(f x).length<=m)->(l.flatMap f).length<=l.length*m
 |[],_=>by simp
 |a::l,h=>by
  have h1:=qP l fun x hx=>h x (by simp[hx]);have h2:=h a (by simp);rw[List.flatMap_cons,yU,xQ,xB];omega
theorem IE{s:dl}{L:List aj}(h:ki s L)(hw:ma s):L.length<=60:=by
 rw[h.cap.1];have h1:(iH s).length<=s.xp.length*12:=qP s.xp fun x hx=>by
  rw[zJ,wQ];unfold F9;cases e:s.bk[x.var.toNat]? with
  |none=>simp
  |some b=>simp only[Option.getD_some];exact (hw.bk b (zW e)).1
 have:=hw.xpn;omega
theorem QX(s:dl)(l:List aj):Re (if aC s=0 then cQ s (ay l) else ⟨[],[]⟩):=by
 by_cases h:aC s=0
 ·rw[if_pos h];exact⟨fun x hx=>Pt hx,by unfold Lm Kr;exact N5⟩
 ·rw[if_neg h];exact⟨fun x hx=>by simp at hx,rfl⟩
theorem NZ(s:dl)(l:List aj)(hl:l.length<=300):(if aC s=0 then cQ s (ay l) else ⟨[],[]⟩).sts.length<=300/\(if aC s=0 then cQ s (ay l) else ⟨[],[]⟩).pgs.length<=300:=by
 by_cases h:aC s=0
 ·rw[if_pos h];have h1:=Bd l;have h2:=rq (af s (ay l)) (ay l).length;have h3:=tl (af s (ay l)) (ay l).length;exact⟨by unfold cQ;simp only;omega,by unfold cQ;simp only;omega⟩
 ·rw[if_neg h];simp
end Go.Proofs.YtpaidaphacoblaaGreatDoor

namespace Go.Proofs.YtpaidaphacoblaaGreatDoor
open Go.RowKit
open Go.MapKept Go.ChangeMaps
open Go.Maps (Keyed)
variable {key:Value}
noncomputable def Be(M:Value->Option Value)(key val:Value):Value->Option Value:=fun x=>open Classical in if x=key then some val else M x
theorem po(M:Value->Option Value)(key val:Value):Be M key val key=some val:=by unfold Be;rw[if_pos rfl]
theorem vj{M:Value->Option Value}{val x:Value}(h:x≠key):Be M key val x=M x:=by unfold Be;rw[if_neg h]
def eJ(P:Program)(k:TypeId)(w:World)(b:Nat)(M:Value->Option Value):Prop :=
 ∃es clock,w.heap[b]?=some (.map es clock)/\(∀e∈es.toList,∃l,keyOf P k e.key=some l)/\es.toList.Pairwise (fun a b=>a.key≠b.key)/\∀x v,M x=some v↔∃e∈es.toList,e.key=x/\e.val=v
section
variable {P:Program} {k e t:TypeId} {w w':World} {b:Nat} {M:Value->Option Value}
theorem eJ.made(w:World)(P:Program)(k:TypeId):eJ P k (w.alloc (.map #[] 0)) w.heap.size (fun _=>none) :=
 ⟨#[],0,heap_alloc_new w _,fun e h=>by simp at h,by simp,fun x v=>by simp⟩
theorem eJ.lt(h:eJ P k w b M):b<w.heap.size:=by obtain⟨es,c,hb,_⟩:=h;exact al hb
theorem eJ.ext(h:eJ P k w b M)(x:ab w w'):eJ P k w' b M:=by obtain⟨es,c,hb,h1,h2,h3⟩:=h;exact⟨es,c,x.blk hb,h1,h2,h3⟩
theorem eJ.grown(h:eJ P k w b M){row:Option Nat}(hg:w.grownBy w' row)(hr:row≠some b):eJ P k w' b M:=by have hl:=h.lt;obtain⟨es,c,hb,h1,h2,h3⟩:=h;exact⟨es,c,(hg.block b hl (fun e=>hr e.symm)).trans hb,h1,h2,h3⟩
theorem eJ.look(h:eJ P k w b M)(K:Keyed P k)(ht:P.underlying t=some (.map k e)){z:Value}(hz:(zeroValue e).run P w=.ok z w){kl:Lit}(hkey:keyOf P k key=some kl) :
  (Instr.lookup t (.map (some b)) key false).run P w=.ok ((M key).getD z) w/\(Instr.lookup t (.map (some b)) key true).run P w=.ok (.tuple #[(M key).getD z,.bool (M key).isSome]) w:=by
 obtain⟨es,c,hb,h1,h2,h3⟩:=h;rcases K.find w hkey es.toList h1 with ⟨f1,f2⟩|⟨j,e0,f1,f2,f3⟩
 ·have hM:M key=none:=by
   cases hm:M key with
   |none=>rfl
   |some v=>obtain⟨e',he,hk,_⟩:=(h3 key v).1 hm;exact absurd hk (f2 e' he)
  rw[hM];constructor<;>simp[Instr.lookup,run_underlying ht,MapKept.run_getObj_map hb,K.check w _ hkey,f1,hz,Result.andThen]
 ·have hM:M key=some e0.val:=(h3 key _).2 ⟨e0,zW f2,f3,rfl⟩;rw[hM];constructor<;>simp[Instr.lookup,run_underlying ht,MapKept.run_getObj_map hb,K.check w _ hkey,f1,Result.andThen]
theorem eJ.up(h:eJ P k w b M)(K:Keyed P k)(ht:P.underlying t=some (.map k e)){val:Value}{kl:Lit}(hkey:keyOf P k key=some kl) :
  ∃w',(Instr.mapUpdate t (.map (some b)) key val).run P w=.ok () w'/\eJ P k w' b (Be M key val)/\w.grownBy w' (some b):=by
 obtain⟨es,c,hb,h1,h2,h3⟩:=h;have hg:∀o,w.grownBy (setBlock w b o) (some b):=fun o=>⟨rfl,rfl,rfl,by simp[setBlock],fun i _ hi=>heap_setBlock_other hb _ (fun e=>hi (by rw[e]))⟩
 rcases K.find w hkey es.toList h1 with ⟨f1,f2⟩|⟨j,e0,f1,f2,f3⟩
 ·refine⟨setBlock w b (.map (es.push ⟨key,val,c⟩) (c+1)),?_,⟨_,_,heap_setBlock_same hb _,?_,?_,?_⟩,hg _⟩
  ·simp[Instr.mapUpdate,run_underlying ht,MapKept.run_getObj_map hb,K.check w false hkey,f1,MapKept.run_setObj_map _ hb,Result.andThen,setBlock]
  ·intro x hx;simp only[vT,zM,uJ]at hx;rcases hx with hx|rfl
   ·exact h1 x hx
   ·exact⟨kl,hkey⟩
  ·rw[vT,xJ];refine⟨h2,wR _ _,fun a ha x hx=>?_⟩;obtain rfl:x=_:=by simpa using hx
   exact f2 a ha
  ·intro x v;simp only[vT,zM,uJ];by_cases hx:x=key
   ·subst hx;rw[po];constructor
    ·intro h;injection h with h;exact⟨_,.inr rfl,rfl,h⟩
    ·rintro⟨y,hy|rfl,hk,hv⟩
     ·exact absurd hk (f2 y hy)
     ·simp only at hv;rw[hv]
   ·rw[vj hx,h3];constructor
    ·rintro⟨y,hy,hk,hv⟩;exact⟨y,.inl hy,hk,hv⟩
    ·rintro⟨y,hy|rfl,hk,hv⟩
     ·exact⟨y,hy,hk,hv⟩
     ·exact absurd hk.symm hx
 ·have hj:es[j]?=some e0:=by simpa using f2
  have hl:(es.modify j fun e'=>{ e' with key:=key,val:=val }).toList=es.toList.set j { e0 with key:=key,val:=val }:=by rw[Array.toList_modify,modify_eq_set _ _ _ _ f2]
  have hjl:j<es.toList.length:=(zY.1 f2).1;have hmem:∀x,x∈es.toList.set j { e0 with key:=key,val:=val }->x={ e0 with key:=key,val:=val }\/(x∈es.toList/\x.key≠key):=by
   intro x hx;obtain⟨i,hi⟩:=zH hx;rw[yD]at hi;split at hi
   ·injection hi with hi;exact .inl hi.symm
   ·rename_i hji
    refine .inr ⟨zW hi,fun e=>?_⟩;have hil:=(zY.1 hi).1;have p1:=xX.1 h2;have ei:es.toList[i]=x:=(zY.1 hi).2;have ej:es.toList[j]=e0:=(zY.1 f2).2;rcases Nat.lt_or_gt_of_ne hji with h|h
    ·exact p1 j i hjl hil h (by rw[ei,ej,f3,e])
    ·exact p1 i j hil hjl h (by rw[ei,ej,f3,e])
  have hrun:(Instr.mapUpdate t (.map (some b)) key val).run P w=.ok () (setBlock w b (.map (es.modify j fun e'=>{ e' with key:=key,val:=val }) c)):=by simp[Instr.mapUpdate,run_underlying ht,MapKept.run_getObj_map hb,K.check w false hkey,f1,hj,f3,K.stays w hkey,MapKept.run_setObj_map _ hb,Result.andThen,setBlock]
  refine⟨_,hrun,⟨_,_,heap_setBlock_same hb _,?_,?_,?_⟩,hg _⟩
  ·rw[hl];intro x hx;rcases hmem x hx with rfl|⟨hx,_⟩
   ·exact⟨kl,hkey⟩
   ·exact h1 x hx
  ·rw[hl,xX];intro i i' hi hi' hlt;have p1:=xX.1 h2;have key_at:∀(q:Nat) (hq:q<(es.toList.set j { e0 with key:=key,val:=val }).length),((es.toList.set j { e0 with key:=key,val:=val })[q]'hq).key=(es.toList[q]'(by simpa using hq)).key:=by
    intro q hq;rw[List.getElem_set];split
    ·rename_i e;subst e
     have ej:es.toList[j]=e0:=(zY.1 f2).2;rw[ej,f3]
    ·rfl
   rw[key_at,key_at];exact p1 i i' _ _ hlt
  ·intro x v;rw[hl];by_cases hx:x=key
   ·subst hx;rw[po];constructor
    ·intro h;injection h with h
     exact⟨_,zW (i:=j) (by rw[yD,if_pos rfl,if_pos hjl]),rfl,h⟩
    ·rintro⟨y,hy,hk,hv⟩;rcases hmem y hy with rfl|⟨_,hn⟩
     ·simp only at hv;rw[hv]
     ·exact absurd hk hn
   ·rw[vj hx,h3];constructor
    ·rintro⟨y,hy,hk,hv⟩;obtain⟨i,hi⟩:=zH hy;have hij:j≠i:=fun e=>by subst e;rw[f2]at hi;injection hi with hi;subst hi;exact hx (hk.symm.trans f3)
     exact⟨y,zW (i:=i) (by rw[yD,if_neg hij];exact hi),hk,hv⟩
    ·rintro⟨y,hy,hk,hv⟩;rcases hmem y hy with rfl|⟨hy,_⟩
     ·exact absurd hk.symm hx
     ·exact⟨y,hy,hk,hv⟩
end
theorem ul{P:Program}(w:World){ops:Array Oper}{rest:List Oper}{o:Oper}{a:Act}{Q:Exit->Act->World->Prop}(hg:o.guard=none)(m x v:Operand)(t:TypeId)(hop:o.op=Op.mapUpdate t m x v)(k e:TypeId)(K:Keyed P k)(ht:P.underlying t=some (.map k e))(b:Nat)(M:Value->Option Value)(hm:a.eval m=.map (some b))(h:eJ P k w b M)(key val:Value)(kl:Lit)(hx:a.eval x=key)(hv:a.eval v=val)(hkey:keyOf P k key=some kl)(hK:∀w',eJ P k w' b (Be M key val)->w.grownBy w' (some b)->wpList P ops Q rest (a.put o.dst undef) w') :
  wpList P ops Q (o::rest) a w:=by
 refine wpList_plain hg fun K' hK'=>?_;obtain⟨w',hrun,r1,r2⟩:=h.up K ht hkey (val:=val);unfold Oper.wp;simp[execOp,hop,hm,hx,hv,hrun,Result.andThen];exact hK' _ _ (hK w' r1 r2)
def nW(i:Nat):Value:=.int .i64 (i:Int)
structure pS (P:Program) (k e:TypeId) (w:World) (base:Nat) (G:Value->List Nat) (es:List MapEntry) (clock:Nat):Prop where
 lit:∀x∈es,∃l,keyOf P k x.key=some l
 key:es.Pairwise (fun a b=>a.key≠b.key)
 old:∀x∈es,x.born<clock
 born:es.Pairwise (fun a b=>a.born≠b.born)
 row:∀x∈es,w.ownsRow base e 1 x.val (G x.key).length ((G x.key).map nW)
 apart:es.Pairwise (fun a b=>∀r,a.val.ownBlock=some r->b.val.ownBlock≠some r)
 none_:∀x,(∀y∈es,y.key≠x)->G x=[]
def fp(P:Program)(k e:TypeId)(w:World)(b base:Nat)(G:Value->List Nat):Prop :=
 b<base/\∃es clock,w.heap[b]?=some (.map es clock)/\pS P k e w base G es.toList clock
noncomputable def EV(G:Value->List Nat)(key:Value)(js:List Nat):Value->List Nat:=fun x=>open Classical in if x=key then js else G x
theorem tn(G:Value->List Nat)(key:Value)(js:List Nat):EV G key js key=js:=by unfold EV;rw[if_pos rfl]
theorem wn{G:Value->List Nat}{x:Value}{js:List Nat}(h:x≠key):EV G key js x=G x:=by unfold EV;rw[if_neg h]
theorem wi{α:Type}{R:α->α->Prop}{l:List α}(h:l.Pairwise R)(hs:∀a b,R a b->R b a){a b:α}(ha:a∈l)(hb:b∈l)(hab:a≠b):R a b:=by
 obtain⟨i,hi⟩:=zH ha;obtain⟨j,hj⟩:=zH hb;obtain⟨i1,rfl⟩:=zY.1 hi;obtain⟨j1,rfl⟩:=zY.1 hj;rcases xO i j with h'|h'|h'
 ·exact xX.1 h i j i1 j1 h'
 ·subst h';exact absurd rfl hab
 ·exact hs _ _ (xX.1 h j i j1 i1 h')
section
variable {P:Program} {k e E t:TypeId} {w w':World} {b base clock:Nat} {G:Value->List Nat} {es:List MapEntry}
theorem pS.lt(h:pS P k e w base G es clock){x:MapEntry}(hx:x∈es){r:Nat}(hr:x.val.ownBlock=some r):base<=r/\r<w.heap.size:=(h.row x hx).lt r hr
theorem pS.kept(h:pS P k e w base G es clock){row:Option Nat}(hg:w.grownBy w' row)(hr:∀r,row=some r->r<base):pS P k e w' base G es clock :=
 ⟨h.lit,h.key,h.old,h.born,fun x hx=>(h.row x hx).kept hg (by
  cases hb:x.val.ownBlock with
  |none=>exact .inl rfl
  |some r=>exact .inr (fun e=>by have h1:=(h.lt hx hb).1;have h2:=hr r e.symm;omega)),h.apart,h.none_⟩
theorem fp.lt(h:fp P k e w b base G):b<w.heap.size:=by obtain⟨_,es,c,hb,_⟩:=h;exact al hb
theorem fp.kept(h:fp P k e w b base G){row:Option Nat}(hg:w.grownBy w' row)(hr:∀r,row=some r->r<base/\r≠b):fp P k e w' b base G:=by have hl:=h.lt;obtain⟨h0,es,c,hb,hE⟩:=h;exact⟨h0,es,c,(hg.block b hl (fun e=>(hr b e.symm).2 rfl)).trans hb,hE.kept hg (fun r e=>(hr r e).1)⟩
theorem fp.ext(h:fp P k e w b base G)(x:ab w w'):fp P k e w' b base G :=
 h.kept (row:=none) ⟨x.os,x.tape,x.output,x.size,fun i hi _=>x.block i hi⟩ (fun r e=>by cases e)
theorem fp.made(w:World)(P:Program)(k e:TypeId):fp P k e (w.alloc (.map #[] 0)) w.heap.size (w.heap.size+1) (fun _=>[]) :=
 ⟨by omega,#[],0,heap_alloc_new w _,⟨fun x h=>by simp at h,by simp,fun x h=>by simp at h,by simp,fun x h=>by simp at h,by simp,fun x _=>rfl⟩⟩
theorem pS.same(h:pS P k e w base G es clock)(K:Keyed P k){x y:MapEntry}(hx:x∈es)(hy:y∈es)(hk:x.key=y.key):x=y:=by
 by_cases e:x=y
 ·exact e
 ·exact absurd hk (wi h.key (fun _ _ h=>Ne.symm h) hx hy e)
theorem fp.entry(h:fp P k e w b base G)(K:Keyed P k)(ht:P.underlying t=some (.map k E))(hz:∀w,(zeroValue E).run P w=.ok (.slice none 0 0) w){kl:Lit}(hkey:keyOf P k key=some kl) :
  ∃w1 v st es clock,(Instr.mapEntry t (.map (some b)) key).run P w=.ok (.tuple #[v,.int .i64 (st:Nat)]) w1/\w.grownBy w1 (some b)/\b<base/\w1.heap[b]?=some (.map es clock)/\pS P k e w1 base G es.toList clock/\∃x∈es.toList,x.key=key/\x.val=v/\x.born=st:=by
 obtain⟨h0,es,c,hb,hE⟩:=h;have hg:∀o,w.grownBy (setBlock w b o) (some b):=fun o=>⟨rfl,rfl,rfl,by simp[setBlock],fun i _ hi=>heap_setBlock_other hb _ (fun e=>hi (by rw[e]))⟩
 rcases K.find w hkey es.toList hE.lit with ⟨f1,f2⟩|⟨j,e0,f1,f2,f3⟩
 ·refine⟨setBlock w b (.map (es.push ⟨key,.slice none 0 0,c⟩) (c+1)),.slice none 0 0,c,es.push ⟨key,.slice none 0 0,c⟩,c+1,?_,hg _,h0,heap_setBlock_same hb _,?_,⟨key,.slice none 0 0,c⟩,by simp,rfl,rfl,rfl⟩
  ·simp[Instr.mapEntry,run_underlying ht,MapKept.run_getObj_map hb,K.check w false hkey,f1,hz,MapKept.run_setObj_map _ hb,Result.andThen,setBlock,goInt]
  ·have hk:=hE.kept (hg (.map (es.push ⟨key,.slice none 0 0,c⟩) (c+1))) (fun r e=>by injection e with e;omega);have hGk:G key=[]:=hE.none_ key f2;refine⟨fun x hx=>?_,?_,fun x hx=>?_,?_,fun x hx=>?_,?_,fun x hx=>?_⟩
   ·simp only[vT,zM,uJ]at hx;rcases hx with hx|rfl
    ·exact hE.lit x hx
    ·exact⟨kl,hkey⟩
   ·rw[vT,xJ];exact⟨hE.key,wR _ _,fun a ha x hx=>by obtain rfl:x=_:=(by simpa using hx);exact f2 a ha⟩
   ·simp only[vT,zM,uJ]at hx;rcases hx with hx|rfl
    ·have:=hE.old x hx;omega
    ·simp only;omega
   ·rw[vT,xJ];exact⟨hE.born,wR _ _,fun a ha x hx=>by obtain rfl:x=_:=(by simpa using hx);have:=hE.old a ha;simp only;omega⟩
   ·simp only[vT,zM,uJ]at hx;rcases hx with hx|rfl
    ·exact hk.row x hx
    ·simp only[hGk];exact yZ _ _ _ _
   ·rw[vT,xJ];exact⟨hE.apart,wR _ _,fun a ha x hx r hr=>by obtain rfl:x=_:=(by simpa using hx);simp[Value.ownBlock]⟩
   ·exact hE.none_ x fun y hy=>hx y (by simp[hy])
 ·have hj:es[j]?=some e0:=by simpa using f2
  have hes:(es.modify j fun e'=>{ e' with key:=key })=es:=by apply Array.ext';rw[Array.toList_modify,modify_eq_set _ _ _ _ f2];obtain⟨h1,h2⟩:=zY.1 f2;rw[show ({ e0 with key:=key }:MapEntry)=e0 by rw[<-f3],<-h2];exact uM h1
  have hrun:(Instr.mapEntry t (.map (some b)) key).run P w=.ok (.tuple #[e0.val,.int .i64 (e0.born:Nat)]) (setBlock w b (.map es c)):=by simp[Instr.mapEntry,run_underlying ht,MapKept.run_getObj_map hb,K.check w false hkey,f1,hj,f3,K.stays w hkey,MapKept.run_setObj_map _ hb,Result.andThen,setBlock,goInt,hes]
  exact⟨_,e0.val,e0.born,es,c,hrun,hg _,h0,heap_setBlock_same hb _,hE.kept (hg _) (fun r e=>by injection e with e;omega),e0,zW f2,f3,rfl,rfl⟩
theorem pS.back{w1 w2:World}{es:Array MapEntry}{x:MapEntry}{v':Value}{js:List Nat}(h0:b<base)(hb:w1.heap[b]?=some (.map es clock))(hE:pS P k e w1 base G es.toList clock)(K:Keyed P k)(hx:x∈es.toList)(hg:w1.grownBy w2 x.val.ownBlock)(hown:w2.ownsRow base e 1 v' js.length (js.map nW))(hat:v'.ownBlock=x.val.ownBlock\/∃r,v'.ownBlock=some r/\w1.heap.size<=r) :
  ∃w3,(Instr.entryStore t (.map (some b)) (.int .i64 (x.born:Nat)) v').run P w2=.ok () w3/\w2.grownBy w3 (some b)/\fp P k e w3 b base (EV G x.key js):=by
 have hb2:w2.heap[b]?=some (.map es clock):=(hg.block b (al hb) (fun e=>by have:=(hE.lt hx e.symm).1;omega)).trans hb;obtain⟨i,hi⟩:=zH hx;obtain⟨hil,hie⟩:=zY.1 hi;have hfi:es.findIdx? (fun e=>(e.born:Int)==((x.born:Nat):Int))=some i:=by have e1:=List.findIdx?_toArray (fun e:MapEntry=>(e.born:Int)==((x.born:Nat):Int)) es.toList;rw[Array.toArray_toList]at e1;rw[e1,List.findIdx?_eq_some_iff_getElem];refine⟨hil,by rw[hie];simp,fun j hj=>?_⟩;have:=xX.1 hE.born j i (by omega) hil hj;rw[hie]at this;simp only[beq_iff_eq];omega
 have hg3:∀o,w2.grownBy (setBlock w2 b o) (some b):=fun o=>⟨rfl,rfl,rfl,by simp[setBlock],fun i _ hi=>heap_setBlock_other hb2 _ (fun e=>hi (by rw[e]))⟩
 have hl:(es.modify i fun e'=>{ e' with val:=v' }).toList=es.toList.set i { x with val:=v' }:=by rw[Array.toList_modify,modify_eq_set _ _ _ _ hi]
 refine⟨setBlock w2 b (.map (es.modify i fun e'=>{ e' with val:=v' }) clock),?_,hg3 _,h0,_,_,heap_setBlock_same hb2 _,?_⟩
 ·simp[Instr.entryStore,MapKept.run_getObj_map hb2,asInt,asIntOf,hfi,MapKept.run_setObj_map _ hb2,Result.andThen,setBlock]
 ·rw[hl];have hmem:∀y,y∈es.toList.set i { x with val:=v' }->y={ x with val:=v' }\/(y∈es.toList/\y≠x):=by
   intro y hy;obtain⟨j,hj⟩:=zH hy;rw[yD]at hj;by_cases e:i=j
   ·subst e;rw[if_pos rfl,if_pos hil]at hj;injection hj with hj;exact .inl hj.symm
   ·rw[if_neg e]at hj;refine .inr ⟨zW hj,fun e'=>?_⟩;obtain⟨hjl,hje⟩:=zY.1 hj;have p1:=xX.1 hE.key;rcases Nat.lt_or_gt_of_ne e with h|h
    ·exact p1 i j hil hjl h (by rw[hie,hje,e'])
    ·exact p1 j i hjl hil h (by rw[hie,hje,e'])
  have at_:∀(j:Nat) (hj:j<(es.toList.set i { x with val:=v' }).length),((es.toList.set i { x with val:=v' })[j]'hj).key=(es.toList[j]'(by simpa using hj)).key/\((es.toList.set i { x with val:=v' })[j]'hj).born=(es.toList[j]'(by simpa using hj)).born:=by
   intro j hj;rw[List.getElem_set];split
   ·rename_i e;subst e;rw[hie];exact⟨rfl,rfl⟩
   ·exact⟨rfl,rfl⟩
  have hrow3:∀{v:Value} {n:Nat} {xs:List Value},w2.ownsRow base e 1 v n xs->(setBlock w2 b (.map (es.modify i fun e'=>{ e' with val:=v' }) clock)).ownsRow base e 1 v n xs:=fun {v n xs} h=>h.kept (hg3 _) (by
   cases hv:v.ownBlock with
   |none=>exact .inl rfl
   |some r=>exact .inr (fun e=>by injection e with e;have:=(h.lt r hv).1;omega))
  have hapart:∀y∈es.toList,y≠x->∀r,y.val.ownBlock=some r->v'.ownBlock≠some r:=by
   intro y hy hne r hr hv;rcases hat with h|⟨r',h,hr'⟩
   ·exact wi hE.apart (fun a b h r h1 h2=>h r h2 h1) hy hx hne r hr (by rw[<-h];exact hv)
   ·rw[hv]at h;injection h with h
    have:=(hE.lt hy hr).2;omega
  refine⟨fun y hy=>?_,?_,fun y hy=>?_,?_,fun y hy=>?_,?_,fun z hz=>?_⟩
  ·rcases hmem y hy with rfl|⟨hy,_⟩
   ·exact hE.lit x hx
   ·exact hE.lit y hy
  ·rw[xX];intro p q hp hq hpq;rw[(at_ p hp).1,(at_ q hq).1];exact xX.1 hE.key p q _ _ hpq
  ·rcases hmem y hy with rfl|⟨hy,_⟩
   ·exact hE.old x hx
   ·exact hE.old y hy
  ·rw[xX];intro p q hp hq hpq;rw[(at_ p hp).2,(at_ q hq).2];exact xX.1 hE.born p q _ _ hpq
  ·rcases hmem y hy with rfl|⟨hy,hne⟩
   ·simp only[tn];exact hrow3 hown
   ·have hk:y.key≠x.key:=fun e'=>hne (hE.same K hy hx e');rw[wn hk];refine hrow3 ((hE.row y hy).kept hg ?_);cases hv:y.val.ownBlock with
    |none=>exact .inl rfl
    |some r=>exact .inr (fun e'=>wi hE.apart (fun a b h r h1 h2=>h r h2 h1) hy hx hne r hv e'.symm)
  ·rw[xX];intro p q hp hq hpq r hr hr2;have mp:=xC hp;have mq:=xC hq;have hne:(es.toList.set i { x with val:=v' })[p]≠(es.toList.set i { x with val:=v' })[q]:=fun e'=>by
    have h1:=(at_ p hp).1;have h2:=(at_ q hq).1;rw[e']at h1;exact xX.1 hE.key p q (by simpa using hp) (by simpa using hq) hpq (h1.symm.trans h2)
   rcases hmem _ mp with hp'|⟨hp',hpx⟩<;>rcases hmem _ mq with hq'|⟨hq',hqx⟩
   ·exact hne (hp'.trans hq'.symm)
   ·rw[hp']at hr;exact hapart _ hq' hqx r hr2 hr
   ·rw[hq']at hr2;exact hapart _ hp' hpx r hr hr2
   ·exact wi hE.apart (fun a b h r h1 h2=>h r h2 h1) hp' hq' hne r hr hr2
  ·have hzx:z≠x.key:=fun e'=>hz { x with val:=v' } (zW (i:=i) (by rw[yD,if_pos rfl,if_pos hil])) e'.symm;rw[wn hzx];refine hE.none_ z fun y hy=>?_;by_cases e':y=x
   ·rw[e'];exact fun h=>hzx h.symm
   ·obtain⟨j,hj⟩:=zH hy;have hij:i≠j:=fun e''=>by subst e'';rw[hi]at hj;injection hj with hj;exact e' hj.symm
    exact hz y (zW (i:=j) (by rw[yD,if_neg hij];exact hj))
theorem fp.look(h:fp P k e w b base G)(K:Keyed P k)(ht:P.underlying t=some (.map k E))(hz:(zeroValue E).run P w=.ok (.slice none 0 0) w){kl:Lit}(hkey:keyOf P k key=some kl) :
  ∃v,(Instr.lookup t (.map (some b)) key false).run P w=.ok v w/\w.ownsRow base e 1 v (G key).length ((G key).map nW):=by
 obtain⟨h0,es,c,hb,hE⟩:=h;rcases K.find w hkey es.toList hE.lit with ⟨f1,f2⟩|⟨j,e0,f1,f2,f3⟩
 ·refine⟨.slice none 0 0,by simp[Instr.lookup,run_underlying ht,MapKept.run_getObj_map hb,K.check w _ hkey,f1,hz,Result.andThen],?_⟩;rw[hE.none_ key f2];exact yZ _ _ _ _
 ·refine⟨e0.val,by simp[Instr.lookup,run_underlying ht,MapKept.run_getObj_map hb,K.check w _ hkey,f1,Result.andThen],?_⟩;have:=hE.row e0 (zW f2);rw[f3]at this;exact this
end
end Go.Proofs.YtpaidaphacoblaaGreatDoor

namespace Go.Proofs.YtpaidaphacoblaaGreatDoor
open Go.RowKit Go.Lib Go.Sort
variable {w:World} {base c e k size:Nat}
theorem DE{blk off:Nat}{F cur:Array Value}{e:TypeId}{fr:Nat×Nat}(hb:w.heap[blk]?=some (.cells cur e fr))(n:Nat)(os:Array Obj) :
  (grow (putRow id (Go.Sort.ahead w n) blk off F) os).heap[blk]?=some (.cells (putCells id off F cur) e fr):=by
 have hl:blk<w.heap.size:=al hb;show ((putRow id (Go.Sort.ahead w n) blk off F).heap++os)[blk]?=_
 rw[Array.getElem?_append_left (by simp[putRow,mapBlock,Go.Sort.ahead];exact hl)];simp[putRow,mapBlock,Go.Sort.ahead,Array.getElem?_modify,hb,onCells]
theorem sy{blk off:Nat}{F:Array Value}(n:Nat)(os:Array Obj):w.grownBy (grow (putRow id (Go.Sort.ahead w n) blk off F) os) (some blk):=by
 refine⟨rfl,rfl,rfl,?_,fun i hi hne=>?_⟩
 ·simp[grow,putRow,mapBlock,Go.Sort.ahead]
 ·show ((putRow id (Go.Sort.ahead w n) blk off F).heap++os)[i]?=_
  rw[Array.getElem?_append_left (by simp[putRow,mapBlock,Go.Sort.ahead];exact hi)];simp only[putRow,mapBlock,Go.Sort.ahead,Array.getElem?_modify];rw[if_neg (fun e=>hne (by rw[e]))]
theorem lX{F cur:Array Value}(h:F.size<=cur.size):(putCells id 0 F cur).toList.take F.size=F.toList:=by
 apply xW;intro i;rw[yB];by_cases hi:i<F.size
 ·rw[if_pos hi];simp[putCells,Array.getElem?_mapIdx,hi,zB hi h]
 ·rw[if_neg hi];simp;omega
theorem D8{α:Type}[Inhabited α]{d d':Array α}(h:PermIn 0 d.size d d'):d'.toList.Perm d.toList:=by obtain⟨h1,_,h2⟩:=h;simp only[Array.toList_extract,uZ,Nat.sub_zero,List.extract_eq_take_drop]at h2;rwa [xV (by simp[h1]),xV (by simp)]at h2
theorem JU{α:Type}[Inhabited α]{lt:α->α->Bool}{d:Array α}(h:SortedIn lt 0 d.size d):d.toList.Pairwise fun a b=>lt b a=false:=by rw[xX];intro i j hi hj hij;have:=h i j (xL _) hij (by simpa using hj);rw[getElem!_pos d i (by simpa using hi),getElem!_pos d j (by simpa using hj)]at this;simpa using this
section
variable {α:Type} [Inhabited α] {w:World} {base n cap g:Nat} {e:TypeId}
theorem Hq(enc:α->Value){xs:List α}(h:w.ownsRow base e 1 (.slice (some ⟨g,0,none⟩) n cap) n (xs.map enc)) :
  Holds enc w g 0 xs.toArray/\g<w.heap.size/\xs.length=n/\∀(d':Array α),d'.size=n->∀m os,(sortWorld enc w g 0 m d' os).ownsRow base e 1 (.slice (some ⟨g,0,none⟩) n cap) n (d'.toList.map enc)/\w.grownBy (sortWorld enc w g 0 m d' os) (some g):=by
 obtain⟨hl,hr⟩:=h;have hxl:xs.length=n:=by simpa using hl
 rcases hr with ⟨he,_⟩|⟨g',cap',cur,he,hbg,hg,hnc,hcm,hcs,htake⟩
 ·cases he
 injection he with he _ hc;injection he with he;injection he with he _ _;subst he;subst hc;have hcell:∀j (hj:j<xs.length),cur[j]?=some (enc xs[j]):=by intro j hj;have h1:=congrArg (fun l=>l[j]?) htake;simp only[yB,zP,zV hj,Option.map_some]at h1;rw[if_pos (by omega)]at h1;simpa using h1
 refine⟨fun j hj=>?_,al hg,hxl,fun d' hd m os=>?_⟩
 ·have hj':j<xs.length:=by simpa using hj
  refine⟨?_,ae hg _⟩;rw[yV];refine ac hg ?_;rw[hcell j hj'];simp[hj']
 ·have hF:putRow enc (Go.Sort.ahead w m) g 0 d'=putRow id (Go.Sort.ahead w m) g 0 (d'.map enc):=by
   unfold putRow;congr 1
   funext c
   unfold putCells;congr 1
   funext k x
   simp only[Array.size_map,yV,Nat.sub_zero,id];by_cases hk:k<d'.size
   ·simp[hk]
   ·simp[hk]
  unfold sortWorld;rw[hF];refine⟨⟨by simp[hd],.inr ⟨g,cap,_,rfl,hbg,DE hg m os,hnc,hcm,by simp[putCells,hcs],?_⟩⟩,sy m os⟩;have:=lX (F:=d'.map enc) (cur:=cur) (by simp[hd,hcs];omega);simp only[Array.size_map,hd]at this;rw[wH,this];simp
theorem ml(enc:α->List Value)(hk0:0<k)(hk:∀x,(enc x).length=k)(d:Array α):(flatK enc k d).toList=(d.toList.map enc).flatten:=by
 have hfl:((d.toList.map enc).flatten).length=d.size*k:=by rw[jB (size:=k) (fun cs hc=>by obtain⟨x,_,rfl⟩:=zF.1 hc;exact hk x)];simp
 apply xW;intro t;by_cases ht:t<d.size*k
 ·have hq:t/k<d.size:=Nat.div_lt_of_lt_mul (by rw[wM];exact ht);have hm:t%k<k:=xI _ hk0;have e1:t/k*k+t%k=t:=by rw[wM];exact Nat.div_add_mod _ _
  have hf:=ll (f:=fun cs:List Value=>cs) (ys:=d.toList.map enc) (size:=k) (fun cs hc=>by obtain⟨x,_,rfl⟩:=zF.1 hc;exact hk x) (k:=t/k) (j:=t%k) (zV (by simpa using hq)) hm;simp only[List.map_id']at hf;rw[e1]at hf;rw[hf];have h1:(flatK enc k d).toList[t]?=some ((enc d[t/k]!)[t%k]!):=by rw[<-get_flatK enc k d t ht];simp[ht]
  rw[h1];have hx:t%k<(enc d[t/k]).length:=by rw[hk];exact hm
  simp[hq,hx]
 ·rw[zC (by simp;omega),zC (by omega)]
theorem F3(enc:α->List Value)(hk0:0<k)(hk:∀x,(enc x).length=k){xs:List α}(hn:xs.length=n)(h:w.ownsRow base e k (.slice (some ⟨g,0,none⟩) n cap) n (xs.map enc).flatten) :
  HoldsK enc k w g 0 xs.toArray/\g<w.heap.size/\∀(d':Array α),d'.size=n->∀m os,(sortWorldK enc k w g 0 m d' os).ownsRow base e k (.slice (some ⟨g,0,none⟩) n cap) n (d'.toList.map enc).flatten/\w.grownBy (sortWorldK enc k w g 0 m d' os) (some g):=by
 obtain⟨hl,hr⟩:=h;rcases hr with ⟨he,_⟩|⟨g',cap',cur,he,hbg,hg,hnc,hcm,hcs,htake⟩
 ·cases he
 injection he with he _ hc;injection he with he;injection he with he _ _;subst he;subst hc;have hfl:(flatK enc k xs.toArray).toList=(xs.map enc).flatten:=ml enc hk0 hk xs.toArray;have hle:n*k<=cap*k:=uH _ hnc;refine⟨fun j hj=>?_,al hg,fun d' hd m os=>?_⟩
 ·have hj':j<n*k:=by simpa[hn] using hj
  refine⟨?_,ae hg _⟩;rw[yV];refine ac hg ?_;have h1:=congrArg (fun l=>l[j]?) htake;simp only[yB]at h1;rw[if_pos hj',<-hfl]at h1;have h2:j<(flatK enc k xs.toArray).size:=hj;simp only[Array.getElem?_toList]at h1;rw[h1,xG h2,getElem!_pos _ j h2];rfl
 ·unfold sortWorldK putRowK;have hfs:(flatK enc k d').size=n*k:=by simp[hd]
  refine⟨⟨?_,.inr ⟨g,cap,_,rfl,hbg,DE hg m os,hnc,hcm,by simp[putCells,hcs],?_⟩⟩,sy m os⟩
  ·rw[<-ml enc hk0 hk d'];simp[hd]
  ·have:=lX (F:=flatK enc k d') (cur:=cur) (by rw[hfs,hcs];exact hle);rw[hfs]at this;rw[this,ml enc hk0 hk d']
end
theorem qe{size:Nat}:∀(css:List (List Value)),(∀cs∈css,cs.length=size)->∀(k j:Nat) (cs:List Value) (u:Value),css[k]?=some cs->j<size->css.flatten.set (k*size+j) u=(css.set k (cs.set j u)).flatten
 |[],_,k,j,cs,u,h,_=>by simp at h
 |a::l,hl,0,j,cs,u,h,hj=>by
  simp at h;subst h;have ha:=hl a (by simp);simp only[vQ,yV,wA,M5];rw[List.set_append_left _ _ (by omega)]
 |a::l,hl,k+1,j,cs,u,h,hj=>by
  have ha:=hl a (by simp);simp at h;have ih:=qe l (fun c hc=>hl c (by simp[hc])) k j cs u h hj;simp only[wA,List.set_cons_succ];have e:(k+1)*size+j=a.length+(k*size+j):=by rw[xB,ha];omega
  rw[e,vO _ _ (by omega),Nat.add_sub_cancel_left,ih]
theorem ah.putAt{α:Type}{g n j:Nat}{R:List Value->α->Prop}{xs:List α}{x':α}{u:Value}(h:ah base e size R w (.slice (some ⟨g,0,none⟩) n c) xs)(hk:k<n)(hj:j<size)(hR:∀cs x,xs[k]?=some x->R cs x->R (cs.set j u) x'):ah base e size R (w.setCell ⟨g,k*size+j,none⟩ u) (.slice (some ⟨g,0,none⟩) n c) (xs.set k x'):=by
 obtain⟨css,h1,h2,h3,h4⟩:=h;rcases h3.2 with ⟨e0,_⟩|⟨g',cap,cur,e0,hb,hh,hn,hm,hs,ht⟩
 ·cases e0
 injection e0 with a1 a2 a3;injection a1 with a1;injection a1 with a1;subst a1;subst a3;have hkc:k<css.length:=by omega
 have hck:css[k]?=some css[k]:=zV hkc;have hxk:xs[k]?=some xs[k]:=zV (by omega);have hlc:=h2 _ (zW hck);refine⟨css.set k (css[k].set j u),by simp[h1],fun cs hcs=>?_,⟨?_,.inr ⟨g,c,cur.setIfInBounds (k*size+j) u,by rw[yF,<-a2],hb,?_,by simpa using hn,hm,by simpa using hs,?_⟩⟩,fun i cs x hcs hx=>?_⟩
 ·rcases uW hcs with hm'|rfl
  ·exact h2 cs hm'
  ·simpa using hlc
 ·rw[<-qe css h2 k j css[k] u hck hj,yF,yF];exact h3.1
 ·exact bn hh u
 ·rw[<-qe css h2 k j css[k] u hck hj,yF,tY,List.take_set,ht]
 ·rw[yD]at hcs hx;by_cases hik:k=i
  ·subst hik;rw[if_pos rfl,if_pos (by omega)]at hcs;rw[if_pos rfl,if_pos (by omega)]at hx;injection hcs with hcs;injection hx with hx;subst hcs;subst hx;exact hR _ _ hxk (h4 k _ _ hck hxk)
  ·rw[if_neg hik]at hcs hx;exact h4 i cs x hcs hx
theorem ah.lies{α:Type}{m:Nat}{A:Option Addr}{R:List Value->α->Prop}{xs:List α}(h:ah base e size R w (.slice A m c) xs)(hm:0<m):∃G,A=some ⟨G,0,none⟩/\base<=G/\G<w.heap.size/\∀i,w.frozen? ⟨G,i,none⟩=false:=by
 obtain⟨css,h1,h2,h3,h4⟩:=h;rcases h3.2 with ⟨e0,hz⟩|⟨g',cap,cur,e0,hb,hh,hn,hm',hs,ht⟩
 ·injection e0 with _ a2 _;omega
 ·injection e0 with a1 _ _;exact⟨g',a1,hb,al hh,fun i=>ae hh i⟩
theorem ah.len{α:Type}{m:Nat}{A:Option Addr}{R:List Value->α->Prop}{xs:List α}(h:ah base e size R w (.slice A m c) xs):xs.length=m:=by obtain⟨A',c',e⟩:=h.form;injection e with _ e _;exact e.symm
theorem ah.mono{α:Type}{base':Nat}{v:Value}{R:List Value->α->Prop}{xs:List α}(h:ah base e size R w v xs)(hb:base'<=base):ah base' e size R w v xs:=by
 obtain⟨css,h1,h2,h3,h4⟩:=h;refine⟨css,h1,h2,⟨h3.1,?_⟩,h4⟩;rcases h3.2 with ⟨e0,hz⟩|⟨g',cap,cur,e0,hb',r⟩
 ·exact .inl ⟨e0,hz⟩
 ·exact .inr ⟨g',cap,cur,e0,by omega,r⟩
end Go.Proofs.YtpaidaphacoblaaGreatDoor

namespace Go.Proofs.YtpaidaphacoblaaGreatDoor
open Go.RowKit
variable {base c g k n:Nat} {w:World}
theorem Ip{z:Array Value}{u:Value}(hk:k<n)(hu:z[k%z.size]! = u):(madeCells z n)[k]?=some u:=by unfold madeCells;rw[Array.getElem?_map,Array.getElem?_range,if_pos hk];simp[hu]
theorem AQ{e size i:Nat}{xs:List Value}{u:Value}(h:w.ownsRow base e size (.slice (some ⟨g,0,none⟩) n c) n xs)(hi:i<n*size):(w.setCell ⟨g,i,none⟩ u).ownsRow base e size (.slice (some ⟨g,0,none⟩) n c) n (xs.set i u):=by
 rcases h.2 with ⟨e0,_⟩|⟨g',cap,cur,e0,hb,hh,hn,hm,hs,ht⟩
 ·cases e0
 injection e0 with a1 a2 a3;injection a1 with a1;injection a1 with a1;subst a1;subst a3;exact⟨by rw[yF];exact h.1,.inr ⟨g,c,cur.setIfInBounds i u,rfl,hb,bn hh u,hn,hm,by simpa using hs,by rw[tY,List.take_set,ht]⟩⟩
theorem ez(g:Nat):∀(vs:List Value) (w:World) (i:Nat),w.grownBy (be w g i vs) (some g)
 |[],w,_=>uU _ _
 |v::vs,w,i=>World.grownBy.trans (b:=w.setCell ⟨g,i,none⟩ v) ⟨rfl,rfl,rfl,by simp[World.setCell],fun k _ hne=>yP _ _ _ _ (fun e=>hne (by rw[e]))⟩ (ez g vs _ _)
theorem zl{base e size n c g k:Nat}:∀(vs:List Value) (j:Nat) (w:World) (css:List (List Value)) (cs:List Value),w.ownsRow base e size (.slice (some ⟨g,0,none⟩) n c) n css.flatten->(∀cs∈css,cs.length=size)->css.length=n->css[k]?=some cs->j+vs.length<=size ->
  (be w g (k*size+j) vs).ownsRow base e size (.slice (some ⟨g,0,none⟩) n c) n (css.set k (cs.take j++vs++cs.drop (j+vs.length))).flatten
 |[],j,w,css,cs,h,hl,hn,hk,hj=>by
  have h1:cs.take j++[]++cs.drop (j+([]:List Value).length)=cs:=by simp
  obtain⟨hkl,hke⟩:=zY.1 hk;rw[h1,<-hke,uM hkl];exact h
 |v::vs,j,w,css,cs,h,hl,hn,hk,hj=>by
  have hcl:=hl cs (zW hk);have hkl:=(zY.1 hk).1;simp only[xQ]at hj;have hlt:k*size+j<n*size:=by have:(k+1)*size<=n*size:=uH _ (by omega);rw[xB]at this;omega
  have h1:=AQ (u:=v) h hlt;rw[qe css hl k j cs v hk (by omega)]at h1;have ih:=zl vs (j+1) _ (css.set k (cs.set j v)) (cs.set j v) h1 (fun x hx=>by
   rcases uW hx with hx|rfl
   ·exact hl x hx
   ·rw[yF];exact hcl) (by rw[yF];exact hn) (by rw[yD,if_pos rfl,if_pos hkl]) (by omega)
  rw[List.set_set]at ih;have e1:(cs.set j v).take (j+1)++vs++(cs.set j v).drop (j+1+vs.length)=cs.take j++v::vs++cs.drop (j+(v::vs).length):=by rw[List.drop_set_of_lt (by omega),List.take_set,List.set_eq_take_append_cons_drop,if_pos (by rw[yW];omega)];simp only[xQ,List.take_take,List.drop_take];rw[Nat.min_eq_left (by omega),show j+1-(j+1)=0 by omega,List.take_zero,show j+1+vs.length=j+(vs.length+1) by omega];simp
  rw[e1]at ih;exact ih
section
variable {α:Type} {base e size n c g k:Nat} {R:List Value->α->Prop} {w w':World} {v:Value} {xs:List α} {x':α}
theorem ah.putAll(h:ah base e size R w (.slice (some ⟨g,0,none⟩) n c) xs)(hk:k<n)(vs:List Value)(hl:vs.length=size)(hR:R vs x'):ah base e size R (be w g (k*size) vs) (.slice (some ⟨g,0,none⟩) n c) (xs.set k x'):=by
 have hxl:=h.len;obtain⟨css,h1,h2,h3,h4⟩:=h;rw[hxl]at h3;have hck:css[k]?=some (css[k]'(by omega)):=zV _;have hcl:=h2 _ (zW hck);have:=zl vs 0 w css _ h3 h2 (by omega) hck (by omega);rw[yQ,List.take_zero,List.nil_append,yV,hl,<-hcl,List.drop_length,xN,hcl]at this;refine⟨css.set k vs,by simp[h1],fun cs hcs=>?_,by rw[yF,hxl];exact this,fun i cs x hcs hx=>?_⟩
 ·rcases uW hcs with hm|rfl
  ·exact h2 cs hm
  ·exact hl
 ·rw[yD]at hcs hx;by_cases hik:k=i
  ·subst hik;rw[if_pos rfl,if_pos (by omega)]at hcs;rw[if_pos rfl,if_pos (by omega)]at hx;injection hcs with hcs;injection hx with hx;subst hcs;subst hx;exact hR
  ·rw[if_neg hik]at hcs hx;exact h4 i cs x hcs hx
theorem ah.grown(h:ah base e size R w v xs){row:Option Nat}(hg:w.grownBy w' row)(hne:v.ownBlock=none\/v.ownBlock≠row):ah base e size R w' v xs:=by obtain⟨css,h1,h2,h3,h4⟩:=h;exact⟨css,h1,h2,h3.kept hg hne,h4⟩
theorem ah.cellsAt(h:ah base e size R w (.slice (some ⟨g,0,none⟩) n c) xs)(hk:k<n):∃cs x,cs.length=size/\R cs x/\Hid (xs[k]?=some x)/\(∀(j:Nat) u,cs[j]?=some u->w.cell? ⟨g,k*size+j,none⟩=some u)/\∀i,w.frozen? ⟨g,i,none⟩=false:=by
 have hxl:=h.len;obtain⟨G,hG,-,-,hf⟩:=h.lies (by omega);injection hG with hG;injection hG with hG;subst hG;obtain⟨css,h1,h2,h3,h4⟩:=h;have hck:css[k]?=some (css[k]'(by omega)):=zV _;have hxk:xs[k]?=some (xs[k]'(by omega)):=zV _;refine⟨_,_,h2 _ (zW hck),h4 k _ _ hck hxk,hxk,fun j u hj=>?_,hf⟩;rw[hxl]at h3;have hjs:j<size:=by have:=(zY.1 hj).1;have:=h2 _ (zW hck);omega
 have hfl:=ll (f:=fun cs:List Value=>cs) (ys:=css) (size:=size) h2 (k:=k) (j:=j) hck hjs;simp only[List.map_id']at hfl;rw[hj]at hfl;have:=h3.cells (g:=g) rfl _ _ hfl;rw[fa,yV]at this;exact this
theorem Fc(z:List Value)(n:Nat)(hz:0<z.length):(madeCells z.toArray (n*z.length)).toList=(List.replicate n z).flatten:=by
 apply xW;intro t;by_cases ht:t<n*z.length
 ·have hq:t/z.length<n:=Nat.div_lt_of_lt_mul (by rw[wM];exact ht);have hm:t%z.length<z.length:=xI _ hz;have e1:t/z.length*z.length+t%z.length=t:=by rw[wM];exact Nat.div_add_mod _ _
  have hf:=ll (f:=fun cs:List Value=>cs) (ys:=List.replicate n z) (size:=z.length) (fun cs hc=>by rw[uX hc]) (k:=t/z.length) (j:=t%z.length) (zV (by simpa using hq)) hm;simp only[List.map_id']at hf;rw[e1]at hf;rw[hf,Array.getElem?_toList,Ip (u:=z[t%z.length]) ht (by simp[hm])];simp[hm]
 ·rw[zC (by simp[size_madeCells];omega),zC (by rw[jB (size:=z.length) (fun cs hc=>by rw[uX hc])];simp;omega)]
theorem Bt(w:World)(z:List Value)(n:Nat)(hz:0<z.length)(hn:n<=1000000):(w.alloc (.cells (madeCells z.toArray (n*z.length)) e)).ownsRow w.heap.size e z.length (.slice (some ⟨w.heap.size,0,none⟩) n n) n (List.replicate n z).flatten:=by rw[<-Fc z n hz];exact⟨by simp[size_madeCells],.inr ⟨w.heap.size,n,_,rfl,zX _,heap_alloc_new w _,zX _,by unfold maxLen;omega,size_madeCells _ _,by rw[xV (by simp[size_madeCells])]⟩⟩
theorem ah.made(w:World)(z:List Value)(x0:α)(n:Nat)(hz:0<z.length)(hn:n<=1000000)(hR:R z x0):ah w.heap.size e z.length R (w.alloc (.cells (madeCells z.toArray (n*z.length)) e)) (.slice (some ⟨w.heap.size,0,none⟩) n n) (List.replicate n x0) :=
 ⟨List.replicate n z,by simp,fun cs hc=>by rw[uX hc],by rw[uD];exact Bt w z n hz hn,fun k cs x hc hx=>by rw[uX (zW hc),uX (zW hx)];exact hR⟩
end
theorem AR{e:TypeId}{xs:List Int}{x:Int}(h:w.ownsRow base e 1 (.slice (some ⟨g,0,none⟩) n c) n (xs.map (Value.int .i64)))(hk:k<n):(w.setCell ⟨g,k,none⟩ (.int .i64 x)).ownsRow base e 1 (.slice (some ⟨g,0,none⟩) n c) n ((xs.set k x).map (Value.int .i64)):=by rw[wX];exact AQ h (by omega)
theorem Cv{e:TypeId}{xs:List Int}(h:w.ownsRow base e 1 (.slice (some ⟨g,0,none⟩) n c) n (xs.map (Value.int .i64)))(hk:k<n):∃x,w.cell? ⟨g,k,none⟩=some (.int .i64 x)/\w.frozen? ⟨g,k,none⟩=false:=by
 have hl:xs.length=n:=by have:=h.1;simpa using this
 refine⟨xs[k]'(by omega),?_,?_⟩
 ·have:=h.cells (g:=g) rfl k (.int .i64 (xs[k]'(by omega))) (by simp[hl,hk]);rw[fa,yV]at this;exact this
 ·rcases h.2 with ⟨e0,_⟩|⟨g',cap,cur,e0,hb,hh,_⟩
  ·cases e0
  ·injection e0 with a1 _ _;injection a1 with a1;injection a1 with a1;subst a1;exact ae hh k
end Go.Proofs.YtpaidaphacoblaaGreatDoor

