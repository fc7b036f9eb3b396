import Derived.Test.YtkaajgoeahahpaaGreatDoorH14
import Derived.Shelf.SlSortCmp.NoneTotal
set_option linter.all false
set_option maxRecDepth 100000
set_option maxHeartbeats 0
namespace Go.Proofs.YtkaajgoeahahpaaGreatDoor
open Go.Value renaming int→D,slice→I
open Go.IntKind renaming i64→H
open Go.RowKit
open Go.MapKept Go.ChangeMaps
open Go.Maps (Keyed)
variable {key:Value}
def nW(i:Nat):Value:=D H (i:Int)
structure pS (P:Program) (k e:TypeId) (w:World) (base:Nat) (G:Value->List Nat) (es:List MapEntry) (clock:Nat):Prop where
 lit:∀x∈es,∃l,keyOf P k x.key=some l
 key:es.Pairwise (fun a b=>a.key≠b.key)
 old:∀x∈es,x.born<clock
 born:es.Pairwise (fun a b=>a.born≠b.born)
 row:∀x∈es,w.ownsRow base e 1 x.val (G x.key).length ((G x.key).map nW)
 apart:es.Pairwise (fun a b=>∀r,a.val.ownBlock=some r->b.val.ownBlock≠some r)
 none_:∀x,(∀y∈es,y.key≠x)->G x=[]
def fp(P:Program)(k e:TypeId)(w:World)(b base:Nat)(G:Value->List Nat):Prop :=
 b<base/\∃es clock,w.heap[b]?=some (.map es clock)/\pS P k e w base G es.toList clock
noncomputable def EV(G:Value->List Nat)(key:Value)(js:List Nat):Value->List Nat:=fun x=>open Classical in if x=key then js else G x
theorem tn(G:Value->List Nat)(key:Value)(js:List Nat):EV G key js key=js:=by unfold EV;rw[if_pos rfl]
theorem wn{G:Value->List Nat}{x:Value}{js:List Nat}(h:x≠key):EV G key js x=G x:=by unfold EV;rw[if_neg h]
theorem wi{α:Type}{R:α->α->Prop}{l:List α}(h:l.Pairwise R)(hs:∀a b,R a b->R b a){a b:α}(ha:a∈l)(hb:b∈l)(hab:a≠b):R a b:=by
 obtain⟨i,hi⟩:=zH ha;obtain⟨j,hj⟩:=zH hb;obtain⟨i1,rfl⟩:=zY.1 hi;obtain⟨j1,rfl⟩:=zY.1 hj;rcases xO i j with h'|h'|h'
 ·exact xX.1 h i j i1 j1 h'
 ·subst h';exact absurd rfl hab
 ·exact hs _ _ (xX.1 h j i j1 i1 h')
section
variable {P:Program} {k e E t:TypeId} {w w':World} {b base clock:Nat} {G:Value->List Nat} {es:List MapEntry}
theorem pS.lt(h:pS P k e w base G es clock){x:MapEntry}(hx:x∈es){r:Nat}(hr:x.val.ownBlock=some r):base<=r/\r<w.heap.size:=(h.row x hx).lt r hr
theorem pS.kept(h:pS P k e w base G es clock){row:Option Nat}(hg:w.grownBy w' row)(hr:∀r,row=some r->r<base):pS P k e w' base G es clock :=
 ⟨h.lit,h.key,h.old,h.born,fun x hx=>(h.row x hx).kept hg (by
  cases hb:x.val.ownBlock with
  |none=>exact .inl rfl
  |some r=>exact .inr (fun e=>by have h1:=(h.lt hx hb).1;have h2:=hr r e.symm;omega)),h.apart,h.none_⟩
theorem fp.lt(h:fp P k e w b base G):b<w.heap.size:=by obtain⟨_,es,c,hb,_⟩:=h;exact al hb
theorem fp.kept(h:fp P k e w b base G){row:Option Nat}(hg:w.grownBy w' row)(hr:∀r,row=some r->r<base/\r≠b):fp P k e w' b base G:=by have hl:=h.lt;obtain⟨h0,es,c,hb,hE⟩:=h;exact⟨h0,es,c,(hg.block b hl (fun e=>(hr b e.symm).2 rfl)).trans hb,hE.kept hg (fun r e=>(hr r e).1)⟩
theorem fp.ext(h:fp P k e w b base G)(x:ab w w'):fp P k e w' b base G :=
 h.kept (row:=none) ⟨x.os,x.tape,x.output,x.size,fun i hi _=>x.block i hi⟩ (fun r e=>by cases e)
theorem fp.made(w:World)(P:Program)(k e:TypeId):fp P k e (w.alloc (.map #[] 0)) w.heap.size (w.heap.size+1) (fun _=>[]) :=
 ⟨by omega,#[],0,heap_alloc_new w _,⟨fun x h=>by simp at h,by simp,fun x h=>by simp at h,by simp,fun x h=>by simp at h,by simp,fun x _=>rfl⟩⟩
theorem pS.same(h:pS P k e w base G es clock)(K:Keyed P k){x y:MapEntry}(hx:x∈es)(hy:y∈es)(hk:x.key=y.key):x=y:=by
 by_cases e:x=y
 ·exact e
 ·exact absurd hk (wi h.key (fun _ _ h=>Ne.symm h) hx hy e)
theorem fp.entry(h:fp P k e w b base G)(K:Keyed P k)(ht:P.underlying t=some (.map k E))(hz:∀w,(zeroValue E).run P w=.ok (I none 0 0) w){kl:Lit}(hkey:keyOf P k key=some kl) :
  ∃w1 v st es clock,(Instr.mapEntry t (.map (some b)) key).run P w=.ok (.tuple #[v,D H (st:Nat)]) w1/\w.grownBy w1 (some b)/\b<base/\w1.heap[b]?=some (.map es clock)/\pS P k e w1 base G es.toList clock/\∃x∈es.toList,x.key=key/\x.val=v/\x.born=st:=by
 obtain⟨h0,es,c,hb,hE⟩:=h;have hg:∀o,w.grownBy (setBlock w b o) (some b):=fun o=>⟨rfl,rfl,rfl,by simp[setBlock],fun i _ hi=>heap_setBlock_other hb _ (fun e=>hi (by rw[e]))⟩
 rcases K.find w hkey es.toList hE.lit with ⟨f1,f2⟩|⟨j,e0,f1,f2,f3⟩
 ·refine⟨setBlock w b (.map (es.push ⟨key,I none 0 0,c⟩) (c+1)),I none 0 0,c,es.push ⟨key,I none 0 0,c⟩,c+1,?_,hg _,h0,heap_setBlock_same hb _,?_,⟨key,I none 0 0,c⟩,by simp,rfl,rfl,rfl⟩
  ·simp[Instr.mapEntry,run_underlying ht,MapKept.run_getObj_map hb,K.check w false hkey,f1,hz,MapKept.run_setObj_map _ hb,Result.andThen,setBlock,goInt]
  ·have hk:=hE.kept (hg (.map (es.push ⟨key,I none 0 0,c⟩) (c+1))) (fun r e=>by injection e with e;omega);have hGk:G key=[]:=hE.none_ key f2;refine⟨fun x hx=>?_,?_,fun x hx=>?_,?_,fun x hx=>?_,?_,fun x hx=>?_⟩
   ·simp only[vT,zM,uJ]at hx;rcases hx with hx|rfl
    ·exact hE.lit x hx
    ·exact⟨kl,hkey⟩
   ·rw[vT,xJ];exact⟨hE.key,wR _ _,fun a ha x hx=>by obtain rfl:x=_:=(by simpa using hx);exact f2 a ha⟩
   ·simp only[vT,zM,uJ]at hx;rcases hx with hx|rfl
    ·have:=hE.old x hx;omega
    ·simp only;omega
   ·rw[vT,xJ];exact⟨hE.born,wR _ _,fun a ha x hx=>by obtain rfl:x=_:=(by simpa using hx);have:=hE.old a ha;simp only;omega⟩
   ·simp only[vT,zM,uJ]at hx;rcases hx with hx|rfl
    ·exact hk.row x hx
    ·simp only[hGk];exact yZ _ _ _ _
   ·rw[vT,xJ];exact⟨hE.apart,wR _ _,fun a ha x hx r hr=>by obtain rfl:x=_:=(by simpa using hx);simp[Value.ownBlock]⟩
   ·exact hE.none_ x fun y hy=>hx y (by simp[hy])
 ·have hj:es[j]?=some e0:=by simpa using f2
  have hes:(es.modify j fun e'=>{ e' with key:=key })=es:=by apply Array.ext';rw[Array.toList_modify,modify_eq_set _ _ _ _ f2];obtain⟨h1,h2⟩:=zY.1 f2;rw[show ({ e0 with key:=key }:MapEntry)=e0 by rw[<-f3],<-h2];exact uM h1
  have hrun:(Instr.mapEntry t (.map (some b)) key).run P w=.ok (.tuple #[e0.val,D H (e0.born:Nat)]) (setBlock w b (.map es c)):=by simp[Instr.mapEntry,run_underlying ht,MapKept.run_getObj_map hb,K.check w false hkey,f1,hj,f3,K.stays w hkey,MapKept.run_setObj_map _ hb,Result.andThen,setBlock,goInt,hes]
  exact⟨_,e0.val,e0.born,es,c,hrun,hg _,h0,heap_setBlock_same hb _,hE.kept (hg _) (fun r e=>by injection e with e;omega),e0,zW f2,f3,rfl,rfl⟩
theorem pS.back{w1 w2:World}{es:Array MapEntry}{x:MapEntry}{v':Value}{js:List Nat}(h0:b<base)(hb:w1.heap[b]?=some (.map es clock))(hE:pS P k e w1 base G es.toList clock)(K:Keyed P k)(hx:x∈es.toList)(hg:w1.grownBy w2 x.val.ownBlock)(hown:w2.ownsRow base e 1 v' js.length (js.map nW))(hat:v'.ownBlock=x.val.ownBlock\/∃r,v'.ownBlock=some r/\w1.heap.size<=r) :
  ∃w3,(Instr.entryStore t (.map (some b)) (D H (x.born:Nat)) v').run P w2=.ok () w3/\w2.grownBy w3 (some b)/\fp P k e w3 b base (EV G x.key js):=by
 have hb2:w2.heap[b]?=some (.map es clock):=(hg.block b (al hb) (fun e=>by have:=(hE.lt hx e.symm).1;omega)).trans hb;obtain⟨i,hi⟩:=zH hx;obtain⟨hil,hie⟩:=zY.1 hi;have hfi:es.findIdx? (fun e=>(e.born:Int)==((x.born:Nat):Int))=some i:=by have e1:=List.findIdx?_toArray (fun e:MapEntry=>(e.born:Int)==((x.born:Nat):Int)) es.toList;rw[Array.toArray_toList]at e1;rw[e1,List.findIdx?_eq_some_iff_getElem];refine⟨hil,by rw[hie];simp,fun j hj=>?_⟩;have:=xX.1 hE.born j i (by omega) hil hj;rw[hie]at this;simp only[beq_iff_eq];omega
 have hg3:∀o,w2.grownBy (setBlock w2 b o) (some b):=fun o=>⟨rfl,rfl,rfl,by simp[setBlock],fun i _ hi=>heap_setBlock_other hb2 _ (fun e=>hi (by rw[e]))⟩
 have hl:(es.modify i fun e'=>{ e' with val:=v' }).toList=es.toList.set i { x with val:=v' }:=by rw[Array.toList_modify,modify_eq_set _ _ _ _ hi]
 refine⟨setBlock w2 b (.map (es.modify i fun e'=>{ e' with val:=v' }) clock),?_,hg3 _,h0,_,_,heap_setBlock_same hb2 _,?_⟩
 ·simp[Instr.entryStore,MapKept.run_getObj_map hb2,asInt,asIntOf,hfi,MapKept.run_setObj_map _ hb2,Result.andThen,setBlock]
 ·rw[hl];have hmem:∀y,y∈es.toList.set i { x with val:=v' }->y={ x with val:=v' }\/(y∈es.toList/\y≠x):=by
   intro y hy;obtain⟨j,hj⟩:=zH hy;rw[yD]at hj;by_cases e:i=j
   ·subst e;rw[if_pos rfl,if_pos hil]at hj;injection hj with hj;exact .inl hj.symm
   ·rw[if_neg e]at hj;refine .inr ⟨zW hj,fun e'=>?_⟩;obtain⟨hjl,hje⟩:=zY.1 hj;have p1:=xX.1 hE.key;rcases Nat.lt_or_gt_of_ne e with h|h
    ·exact p1 i j hil hjl h (by rw[hie,hje,e'])
    ·exact p1 j i hjl hil h (by rw[hie,hje,e'])
  have at_:∀(j:Nat) (hj:j<(es.toList.set i { x with val:=v' }).length),((es.toList.set i { x with val:=v' })[j]'hj).key=(es.toList[j]'(by simpa using hj)).key/\((es.toList.set i { x with val:=v' })[j]'hj).born=(es.toList[j]'(by simpa using hj)).born:=by
   intro j hj;rw[List.getElem_set];split
   ·rename_i e;subst e;rw[hie];exact⟨rfl,rfl⟩
   ·exact⟨rfl,rfl⟩
  have hrow3:∀{v:Value} {n:Nat} {xs:List Value},w2.ownsRow base e 1 v n xs->(setBlock w2 b (.map (es.modify i fun e'=>{ e' with val:=v' }) clock)).ownsRow base e 1 v n xs:=fun {v n xs} h=>h.kept (hg3 _) (by
   cases hv:v.ownBlock with
   |none=>exact .inl rfl
   |some r=>exact .inr (fun e=>by injection e with e;have:=(h.lt r hv).1;omega))
  have hapart:∀y∈es.toList,y≠x->∀r,y.val.ownBlock=some r->v'.ownBlock≠some r:=by
   intro y hy hne r hr hv;rcases hat with h|⟨r',h,hr'⟩
   ·exact wi hE.apart (fun a b h r h1 h2=>h r h2 h1) hy hx hne r hr (by rw[<-h];exact hv)
   ·rw[hv]at h;injection h with h
    have:=(hE.lt hy hr).2;omega
  refine⟨fun y hy=>?_,?_,fun y hy=>?_,?_,fun y hy=>?_,?_,fun z hz=>?_⟩
  ·rcases hmem y hy with rfl|⟨hy,_⟩
   ·exact hE.lit x hx
   ·exact hE.lit y hy
  ·rw[xX];intro p q hp hq hpq;rw[(at_ p hp).1,(at_ q hq).1];exact xX.1 hE.key p q _ _ hpq
  ·rcases hmem y hy with rfl|⟨hy,_⟩
   ·exact hE.old x hx
   ·exact hE.old y hy
  ·rw[xX];intro p q hp hq hpq;rw[(at_ p hp).2,(at_ q hq).2];exact xX.1 hE.born p q _ _ hpq
  ·rcases hmem y hy with rfl|⟨hy,hne⟩
   ·simp only[tn];exact hrow3 hown
   ·have hk:y.key≠x.key:=fun e'=>hne (hE.same K hy hx e');rw[wn hk];refine hrow3 ((hE.row y hy).kept hg ?_);cases hv:y.val.ownBlock with
    |none=>exact .inl rfl
    |some r=>exact .inr (fun e'=>wi hE.apart (fun a b h r h1 h2=>h r h2 h1) hy hx hne r hv e'.symm)
  ·rw[xX];intro p q hp hq hpq r hr hr2;have mp:=xC hp;have mq:=xC hq;have hne:(es.toList.set i { x with val:=v' })[p]≠(es.toList.set i { x with val:=v' })[q]:=fun e'=>by
    have h1:=(at_ p hp).1;have h2:=(at_ q hq).1;rw[e']at h1;exact xX.1 hE.key p q (by simpa using hp) (by simpa using hq) hpq (h1.symm.trans h2)
   rcases hmem _ mp with hp'|⟨hp',hpx⟩<;>rcases hmem _ mq with hq'|⟨hq',hqx⟩
   ·exact hne (hp'.trans hq'.symm)
   ·rw[hp']at hr;exact hapart _ hq' hqx r hr2 hr
   ·rw[hq']at hr2;exact hapart _ hp' hpx r hr hr2
   ·exact wi hE.apart (fun a b h r h1 h2=>h r h2 h1) hp' hq' hne r hr hr2
  ·have hzx:z≠x.key:=fun e'=>hz { x with val:=v' } (zW (i:=i) (by rw[yD,if_pos rfl,if_pos hil])) e'.symm;rw[wn hzx];refine hE.none_ z fun y hy=>?_;by_cases e':y=x
   ·rw[e'];exact fun h=>hzx h.symm
   ·obtain⟨j,hj⟩:=zH hy;have hij:i≠j:=fun e''=>by subst e'';rw[hi]at hj;injection hj with hj;exact e' hj.symm
    exact hz y (zW (i:=j) (by rw[yD,if_neg hij];exact hj))
theorem fp.look(h:fp P k e w b base G)(K:Keyed P k)(ht:P.underlying t=some (.map k E))(hz:(zeroValue E).run P w=.ok (I none 0 0) w){kl:Lit}(hkey:keyOf P k key=some kl) :
  ∃v,(Instr.lookup t (.map (some b)) key false).run P w=.ok v w/\w.ownsRow base e 1 v (G key).length ((G key).map nW):=by
 obtain⟨h0,es,c,hb,hE⟩:=h;rcases K.find w hkey es.toList hE.lit with ⟨f1,f2⟩|⟨j,e0,f1,f2,f3⟩
 ·refine⟨I none 0 0,by simp[Instr.lookup,run_underlying ht,MapKept.run_getObj_map hb,K.check w _ hkey,f1,hz,Result.andThen],?_⟩;rw[hE.none_ key f2];exact yZ _ _ _ _
 ·refine⟨e0.val,by simp[Instr.lookup,run_underlying ht,MapKept.run_getObj_map hb,K.check w _ hkey,f1,Result.andThen],?_⟩;have:=hE.row e0 (zW f2);rw[f3]at this;exact this
end
end Go.Proofs.YtkaajgoeahahpaaGreatDoor

namespace Go.Proofs.YtkaajgoeahahpaaGreatDoor
open Go.Value renaming int→D,slice→I
open Go.IntKind renaming i64→H
open Go.RowKit Go.Lib Go.Sort
variable {w:World} {base c e k size:Nat}
theorem DE{blk off:Nat}{F cur:Array Value}{e:TypeId}{fr:Nat×Nat}(hb:w.heap[blk]?=some (.cells cur e fr))(n:Nat)(os:Array Obj) :
  (grow (putRow id (Go.Sort.ahead w n) blk off F) os).heap[blk]?=some (.cells (putCells id off F cur) e fr):=by
 have hl:blk<w.heap.size:=al hb;show ((putRow id (Go.Sort.ahead w n) blk off F).heap++os)[blk]?=_
 rw[Array.getElem?_append_left (by simp[putRow,mapBlock,Go.Sort.ahead];exact hl)];simp[putRow,mapBlock,Go.Sort.ahead,Array.getElem?_modify,hb,onCells]
theorem sy{blk off:Nat}{F:Array Value}(n:Nat)(os:Array Obj):w.grownBy (grow (putRow id (Go.Sort.ahead w n) blk off F) os) (some blk):=by
 refine⟨rfl,rfl,rfl,?_,fun i hi hne=>?_⟩
 ·simp[grow,putRow,mapBlock,Go.Sort.ahead]
 ·show ((putRow id (Go.Sort.ahead w n) blk off F).heap++os)[i]?=_
  rw[Array.getElem?_append_left (by simp[putRow,mapBlock,Go.Sort.ahead];exact hi)];simp only[putRow,mapBlock,Go.Sort.ahead,Array.getElem?_modify];rw[if_neg (fun e=>hne (by rw[e]))]
theorem lX{F cur:Array Value}(h:F.size<=cur.size):(putCells id 0 F cur).toList.take F.size=F.toList:=by
 apply xW;intro i;rw[yB];by_cases hi:i<F.size
 ·rw[if_pos hi];simp[putCells,Array.getElem?_mapIdx,hi,zB hi h]
 ·rw[if_neg hi];simp;omega
theorem D8{α:Type}[Inhabited α]{d d':Array α}(h:PermIn 0 d.size d d'):d'.toList.Perm d.toList:=by obtain⟨h1,_,h2⟩:=h;simp only[Array.toList_extract,uZ,Nat.sub_zero,List.extract_eq_take_drop]at h2;rwa [xV (by simp[h1]),xV (by simp)]at h2
theorem JU{α:Type}[Inhabited α]{lt:α->α->Bool}{d:Array α}(h:SortedIn lt 0 d.size d):d.toList.Pairwise fun a b=>lt b a=false:=by rw[xX];intro i j hi hj hij;have:=h i j (xL _) hij (by simpa using hj);rw[getElem!_pos d i (by simpa using hi),getElem!_pos d j (by simpa using hj)]at this;simpa using this
section
variable {α:Type} [Inhabited α] {w:World} {base n cap g:Nat} {e:TypeId}
theorem Hq(enc:α->Value){xs:List α}(h:w.ownsRow base e 1 (I (some ⟨g,0,none⟩) n cap) n (xs.map enc)) :
  Holds enc w g 0 xs.toArray/\g<w.heap.size/\xs.length=n/\∀(d':Array α),d'.size=n->∀m os,(sortWorld enc w g 0 m d' os).ownsRow base e 1 (I (some ⟨g,0,none⟩) n cap) n (d'.toList.map enc)/\w.grownBy (sortWorld enc w g 0 m d' os) (some g):=by
 obtain⟨hl,hr⟩:=h;have hxl:xs.length=n:=by simpa using hl
 rcases hr with ⟨he,_⟩|⟨g',cap',cur,he,hbg,hg,hnc,hcm,hcs,htake⟩
 ·cases he
 injection he with he _ hc;injection he with he;injection he with he _ _;subst he;subst hc;have hcell:∀j (hj:j<xs.length),cur[j]?=some (enc xs[j]):=by intro j hj;have h1:=congrArg (fun l=>l[j]?) htake;simp only[yB,zP,zV hj,Option.map_some]at h1;rw[if_pos (by omega)]at h1;simpa using h1
 refine⟨fun j hj=>?_,al hg,hxl,fun d' hd m os=>?_⟩
 ·have hj':j<xs.length:=by simpa using hj
  refine⟨?_,ae hg _⟩;rw[yV];refine ac hg ?_;rw[hcell j hj'];simp[hj']
 ·have hF:putRow enc (Go.Sort.ahead w m) g 0 d'=putRow id (Go.Sort.ahead w m) g 0 (d'.map enc):=by
   unfold putRow;congr 1
   funext c
   unfold putCells;congr 1
   funext k x
   simp only[Array.size_map,yV,Nat.sub_zero,id];by_cases hk:k<d'.size
   ·simp[hk]
   ·simp[hk]
  unfold sortWorld;rw[hF];refine⟨⟨by simp[hd],.inr ⟨g,cap,_,rfl,hbg,DE hg m os,hnc,hcm,by simp[putCells,hcs],?_⟩⟩,sy m os⟩;have:=lX (F:=d'.map enc) (cur:=cur) (by simp[hd,hcs];omega);simp only[Array.size_map,hd]at this;rw[wH,this];simp
theorem ml(enc:α->List Value)(hk0:0<k)(hk:∀x,(enc x).length=k)(d:Array α):(flatK enc k d).toList=(d.toList.map enc).flatten:=by
 have hfl:((d.toList.map enc).flatten).length=d.size*k:=by rw[jB (size:=k) (fun cs hc=>by obtain⟨x,_,rfl⟩:=zF.1 hc;exact hk x)];simp
 apply xW;intro t;by_cases ht:t<d.size*k
 ·have hq:t/k<d.size:=Nat.div_lt_of_lt_mul (by rw[wM];exact ht);have hm:t%k<k:=xI _ hk0;have e1:t/k*k+t%k=t:=by rw[wM];exact Nat.div_add_mod _ _
  have hf:=ll (f:=fun cs:List Value=>cs) (ys:=d.toList.map enc) (size:=k) (fun cs hc=>by obtain⟨x,_,rfl⟩:=zF.1 hc;exact hk x) (k:=t/k) (j:=t%k) (zV (by simpa using hq)) hm;simp only[List.map_id']at hf;rw[e1]at hf;rw[hf];have h1:(flatK enc k d).toList[t]?=some ((enc d[t/k]!)[t%k]!):=by rw[<-get_flatK enc k d t ht];simp[ht]
  rw[h1];have hx:t%k<(enc d[t/k]).length:=by rw[hk];exact hm
  simp[hq,hx]
 ·rw[zC (by simp;omega),zC (by omega)]
theorem F3(enc:α->List Value)(hk0:0<k)(hk:∀x,(enc x).length=k){xs:List α}(hn:xs.length=n)(h:w.ownsRow base e k (I (some ⟨g,0,none⟩) n cap) n (xs.map enc).flatten) :
  HoldsK enc k w g 0 xs.toArray/\g<w.heap.size/\∀(d':Array α),d'.size=n->∀m os,(sortWorldK enc k w g 0 m d' os).ownsRow base e k (I (some ⟨g,0,none⟩) n cap) n (d'.toList.map enc).flatten/\w.grownBy (sortWorldK enc k w g 0 m d' os) (some g):=by
 obtain⟨hl,hr⟩:=h;rcases hr with ⟨he,_⟩|⟨g',cap',cur,he,hbg,hg,hnc,hcm,hcs,htake⟩
 ·cases he
 injection he with he _ hc;injection he with he;injection he with he _ _;subst he;subst hc;have hfl:(flatK enc k xs.toArray).toList=(xs.map enc).flatten:=ml enc hk0 hk xs.toArray;have hle:n*k<=cap*k:=uH _ hnc;refine⟨fun j hj=>?_,al hg,fun d' hd m os=>?_⟩
 ·have hj':j<n*k:=by simpa[hn] using hj
  refine⟨?_,ae hg _⟩;rw[yV];refine ac hg ?_;have h1:=congrArg (fun l=>l[j]?) htake;simp only[yB]at h1;rw[if_pos hj',<-hfl]at h1;have h2:j<(flatK enc k xs.toArray).size:=hj;simp only[Array.getElem?_toList]at h1;rw[h1,xG h2,getElem!_pos _ j h2];rfl
 ·unfold sortWorldK putRowK;have hfs:(flatK enc k d').size=n*k:=by simp[hd]
  refine⟨⟨?_,.inr ⟨g,cap,_,rfl,hbg,DE hg m os,hnc,hcm,by simp[putCells,hcs],?_⟩⟩,sy m os⟩
  ·rw[<-ml enc hk0 hk d'];simp[hd]
  ·have:=lX (F:=flatK enc k d') (cur:=cur) (by rw[hfs,hcs];exact hle);rw[hfs]at this;rw[this,ml enc hk0 hk d']
end
theorem qe{size:Nat}:∀(css:List (List Value)),(∀cs∈css,cs.length=size)->∀(k j:Nat) (cs:List Value) (u:Value),css[k]?=some cs->j<size->css.flatten.set (k*size+j) u=(css.set k (cs.set j u)).flatten
 |[],_,k,j,cs,u,h,_=>by simp at h
 |a::l,hl,0,j,cs,u,h,hj=>by
  simp at h;subst h;have ha:=hl a (by simp);simp only[vQ,yV,wA,vA];rw[List.set_append_left _ _ (by omega)]
 |a::l,hl,k+1,j,cs,u,h,hj=>by
  have ha:=hl a (by simp);simp at h;have ih:=qe l (fun c hc=>hl c (by simp[hc])) k j cs u h hj;simp only[wA,List.set_cons_succ];have e:(k+1)*size+j=a.length+(k*size+j):=by rw[xB,ha];omega
  rw[e,vO _ _ (by omega),Nat.add_sub_cancel_left,ih]
theorem ah.putAt{α:Type}{g n j:Nat}{R:List Value->α->Prop}{xs:List α}{x':α}{u:Value}(h:ah base e size R w (I (some ⟨g,0,none⟩) n c) xs)(hk:k<n)(hj:j<size)(hR:∀cs x,xs[k]?=some x->R cs x->R (cs.set j u) x'):ah base e size R (w.setCell ⟨g,k*size+j,none⟩ u) (I (some ⟨g,0,none⟩) n c) (xs.set k x'):=by
 obtain⟨css,h1,h2,h3,h4⟩:=h;rcases h3.2 with ⟨e0,_⟩|⟨g',cap,cur,e0,hb,hh,hn,hm,hs,ht⟩
 ·cases e0
 injection e0 with a1 a2 a3;injection a1 with a1;injection a1 with a1;subst a1;subst a3;have hkc:k<css.length:=by omega
 have hck:css[k]?=some css[k]:=zV hkc;have hxk:xs[k]?=some xs[k]:=zV (by omega);have hlc:=h2 _ (zW hck);refine⟨css.set k (css[k].set j u),by simp[h1],fun cs hcs=>?_,⟨?_,.inr ⟨g,c,cur.setIfInBounds (k*size+j) u,by rw[yF,<-a2],hb,?_,by simpa using hn,hm,by simpa using hs,?_⟩⟩,fun i cs x hcs hx=>?_⟩
 ·rcases uW hcs with hm'|rfl
  ·exact h2 cs hm'
  ·simpa using hlc
 ·rw[<-qe css h2 k j css[k] u hck hj,yF,yF];exact h3.1
 ·exact bn hh u
 ·rw[<-qe css h2 k j css[k] u hck hj,yF,tY,List.take_set,ht]
 ·rw[yD]at hcs hx;by_cases hik:k=i
  ·subst hik;rw[if_pos rfl,if_pos (by omega)]at hcs;rw[if_pos rfl,if_pos (by omega)]at hx;injection hcs with hcs;injection hx with hx;subst hcs;subst hx;exact hR _ _ hxk (h4 k _ _ hck hxk)
  ·rw[if_neg hik]at hcs hx;exact h4 i cs x hcs hx
theorem ah.kept{α:Type}{p:Nat}{R:List Value->α->Prop}{w':World}{v:Value}{xs:List α}(h:ah base e size R w v xs)(hx:XT p w w')(hp:p<base):ah base e size R w' v xs:=by obtain⟨css,a,b,c,d⟩:=h;exact⟨css,a,b,dD c hx hp,d⟩
theorem ah.lies{α:Type}{m:Nat}{A:Option Addr}{R:List Value->α->Prop}{xs:List α}(h:ah base e size R w (I A m c) xs)(hm:0<m):∃G,A=some ⟨G,0,none⟩/\base<=G/\G<w.heap.size/\∀i,w.frozen? ⟨G,i,none⟩=false:=by
 obtain⟨css,h1,h2,h3,h4⟩:=h;rcases h3.2 with ⟨e0,hz⟩|⟨g',cap,cur,e0,hb,hh,hn,hm',hs,ht⟩
 ·injection e0 with _ a2 _;omega
 ·injection e0 with a1 _ _;exact⟨g',a1,hb,al hh,fun i=>ae hh i⟩
theorem ah.len{α:Type}{m:Nat}{A:Option Addr}{R:List Value->α->Prop}{xs:List α}(h:ah base e size R w (I A m c) xs):xs.length=m:=by obtain⟨A',c',e⟩:=h.form;injection e with _ e _;exact e.symm
theorem ah.mono{α:Type}{base':Nat}{v:Value}{R:List Value->α->Prop}{xs:List α}(h:ah base e size R w v xs)(hb:base'<=base):ah base' e size R w v xs:=by
 obtain⟨css,h1,h2,h3,h4⟩:=h;refine⟨css,h1,h2,⟨h3.1,?_⟩,h4⟩;rcases h3.2 with ⟨e0,hz⟩|⟨g',cap,cur,e0,hb',r⟩
 ·exact .inl ⟨e0,hz⟩
 ·exact .inr ⟨g',cap,cur,e0,by omega,r⟩
end Go.Proofs.YtkaajgoeahahpaaGreatDoor

namespace Go.Proofs.YtkaajgoeahahpaaGreatDoor
open Go.Value renaming int→D,slice→I
open Go.IntKind renaming i64→H
open Go.RowKit
variable {base c g i k n p q:Nat} {w:World}
theorem Ip{z:Array Value}{u:Value}(hk:k<n)(hu:z[k%z.size]! = u):(madeCells z n)[k]?=some u:=by unfold madeCells;rw[Array.getElem?_map,Array.getElem?_range,if_pos hk];simp[hu]
theorem AQ{e size:Nat}{xs:List Value}{u:Value}(h:w.ownsRow base e size (I (some ⟨g,0,none⟩) n c) n xs)(hi:i<n*size):(w.setCell ⟨g,i,none⟩ u).ownsRow base e size (I (some ⟨g,0,none⟩) n c) n (xs.set i u):=by
 rcases h.2 with ⟨e0,_⟩|⟨g',cap,cur,e0,hb,hh,hn,hm,hs,ht⟩
 ·cases e0
 injection e0 with a1 a2 a3;injection a1 with a1;injection a1 with a1;subst a1;subst a3;exact⟨by rw[yF];exact h.1,.inr ⟨g,c,cur.setIfInBounds i u,rfl,hb,bn hh u,hn,hm,by simpa using hs,by rw[tY,List.take_set,ht]⟩⟩
theorem ez(g:Nat):∀(vs:List Value) (w:World) (i:Nat),w.grownBy (be w g i vs) (some g)
 |[],w,_=>uU _ _
 |v::vs,w,i=>World.grownBy.trans (b:=w.setCell ⟨g,i,none⟩ v) ⟨rfl,rfl,rfl,by simp[World.setCell],fun k _ hne=>yP _ _ _ _ (fun e=>hne (by rw[e]))⟩ (ez g vs _ _)
theorem zl{base e size n c g k:Nat}:∀(vs:List Value) (j:Nat) (w:World) (css:List (List Value)) (cs:List Value),w.ownsRow base e size (I (some ⟨g,0,none⟩) n c) n css.flatten->(∀cs∈css,cs.length=size)->css.length=n->css[k]?=some cs->j+vs.length<=size ->
  (be w g (k*size+j) vs).ownsRow base e size (I (some ⟨g,0,none⟩) n c) n (css.set k (cs.take j++vs++cs.drop (j+vs.length))).flatten
 |[],j,w,css,cs,h,hl,hn,hk,hj=>by
  have h1:cs.take j++[]++cs.drop (j+([]:List Value).length)=cs:=by simp
  obtain⟨hkl,hke⟩:=zY.1 hk;rw[h1,<-hke,uM hkl];exact h
 |v::vs,j,w,css,cs,h,hl,hn,hk,hj=>by
  have hcl:=hl cs (zW hk);have hkl:=(zY.1 hk).1;simp only[xQ]at hj;have hlt:k*size+j<n*size:=by have:(k+1)*size<=n*size:=uH _ (by omega);rw[xB]at this;omega
  have h1:=AQ (u:=v) h hlt;rw[qe css hl k j cs v hk (by omega)]at h1;have ih:=zl vs (j+1) _ (css.set k (cs.set j v)) (cs.set j v) h1 (fun x hx=>by
   rcases uW hx with hx|rfl
   ·exact hl x hx
   ·rw[yF];exact hcl) (by rw[yF];exact hn) (by rw[yD,if_pos rfl,if_pos hkl]) (by omega)
  rw[List.set_set]at ih;have e1:(cs.set j v).take (j+1)++vs++(cs.set j v).drop (j+1+vs.length)=cs.take j++v::vs++cs.drop (j+(v::vs).length):=by rw[List.drop_set_of_lt (by omega),List.take_set,List.set_eq_take_append_cons_drop,if_pos (by rw[yW];omega)];simp only[xQ,List.take_take,List.drop_take];rw[Nat.min_eq_left (by omega),show j+1-(j+1)=0 by omega,List.take_zero,show j+1+vs.length=j+(vs.length+1) by omega];simp
  rw[e1]at ih;exact ih
section
variable {α:Type} {base e size n c g k:Nat} {R:List Value->α->Prop} {w w':World} {v:Value} {xs:List α} {x':α}
theorem ah.putAll(h:ah base e size R w (I (some ⟨g,0,none⟩) n c) xs)(hk:k<n)(vs:List Value)(hl:vs.length=size)(hR:R vs x'):ah base e size R (be w g (k*size) vs) (I (some ⟨g,0,none⟩) n c) (xs.set k x'):=by
 have hxl:=h.len;obtain⟨css,h1,h2,h3,h4⟩:=h;rw[hxl]at h3;have hck:css[k]?=some (css[k]'(by omega)):=zV _;have hcl:=h2 _ (zW hck);have:=zl vs 0 w css _ h3 h2 (by omega) hck (by omega);rw[yQ,List.take_zero,List.nil_append,yV,hl,<-hcl,List.drop_length,xN,hcl]at this;refine⟨css.set k vs,by simp[h1],fun cs hcs=>?_,by rw[yF,hxl];exact this,fun i cs x hcs hx=>?_⟩
 ·rcases uW hcs with hm|rfl
  ·exact h2 cs hm
  ·exact hl
 ·rw[yD]at hcs hx;by_cases hik:k=i
  ·subst hik;rw[if_pos rfl,if_pos (by omega)]at hcs;rw[if_pos rfl,if_pos (by omega)]at hx;injection hcs with hcs;injection hx with hx;subst hcs;subst hx;exact hR
  ·rw[if_neg hik]at hcs hx;exact h4 i cs x hcs hx
theorem ah.grown(h:ah base e size R w v xs){row:Option Nat}(hg:w.grownBy w' row)(hne:v.ownBlock=none\/v.ownBlock≠row):ah base e size R w' v xs:=by obtain⟨css,h1,h2,h3,h4⟩:=h;exact⟨css,h1,h2,h3.kept hg hne,h4⟩
theorem ah.cellsAt(h:ah base e size R w (I (some ⟨g,0,none⟩) n c) xs)(hk:k<n):∃cs x,cs.length=size/\R cs x/\Hid (xs[k]?=some x)/\(∀(j:Nat) u,cs[j]?=some u->w.cell? ⟨g,k*size+j,none⟩=some u)/\∀i,w.frozen? ⟨g,i,none⟩=false:=by
 have hxl:=h.len;obtain⟨G,hG,-,-,hf⟩:=h.lies (by omega);injection hG with hG;injection hG with hG;subst hG;obtain⟨css,h1,h2,h3,h4⟩:=h;have hck:css[k]?=some (css[k]'(by omega)):=zV _;have hxk:xs[k]?=some (xs[k]'(by omega)):=zV _;refine⟨_,_,h2 _ (zW hck),h4 k _ _ hck hxk,hxk,fun j u hj=>?_,hf⟩;rw[hxl]at h3;have hjs:j<size:=by have:=(zY.1 hj).1;have:=h2 _ (zW hck);omega
 have hfl:=ll (f:=fun cs:List Value=>cs) (ys:=css) (size:=size) h2 (k:=k) (j:=j) hck hjs;simp only[List.map_id']at hfl;rw[hj]at hfl;have:=h3.cells (g:=g) rfl _ _ hfl;rw[fa,yV]at this;exact this
theorem Fc(z:List Value)(n:Nat)(hz:0<z.length):(madeCells z.toArray (n*z.length)).toList=(List.replicate n z).flatten:=by
 apply xW;intro t;by_cases ht:t<n*z.length
 ·have hq:t/z.length<n:=Nat.div_lt_of_lt_mul (by rw[wM];exact ht);have hm:t%z.length<z.length:=xI _ hz;have e1:t/z.length*z.length+t%z.length=t:=by rw[wM];exact Nat.div_add_mod _ _
  have hf:=ll (f:=fun cs:List Value=>cs) (ys:=List.replicate n z) (size:=z.length) (fun cs hc=>by rw[uX hc]) (k:=t/z.length) (j:=t%z.length) (zV (by simpa using hq)) hm;simp only[List.map_id']at hf;rw[e1]at hf;rw[hf,Array.getElem?_toList,Ip (u:=z[t%z.length]) ht (by simp[hm])];simp[hm]
 ·rw[zC (by simp[size_madeCells];omega),zC (by rw[jB (size:=z.length) (fun cs hc=>by rw[uX hc])];simp;omega)]
theorem Bt(w:World)(z:List Value)(n:Nat)(hz:0<z.length)(hn:n<=1000000):(w.alloc (.cells (madeCells z.toArray (n*z.length)) e)).ownsRow w.heap.size e z.length (I (some ⟨w.heap.size,0,none⟩) n n) n (List.replicate n z).flatten:=by rw[<-Fc z n hz];exact⟨by simp[size_madeCells],.inr ⟨w.heap.size,n,_,rfl,zX _,heap_alloc_new w _,zX _,by unfold maxLen;omega,size_madeCells _ _,by rw[xV (by simp[size_madeCells])]⟩⟩
theorem ah.made(w:World)(z:List Value)(x0:α)(n:Nat)(hz:0<z.length)(hn:n<=1000000)(hR:R z x0):ah w.heap.size e z.length R (w.alloc (.cells (madeCells z.toArray (n*z.length)) e)) (I (some ⟨w.heap.size,0,none⟩) n n) (List.replicate n x0) :=
 ⟨List.replicate n z,by simp,fun cs hc=>by rw[uX hc],by rw[uD];exact Bt w z n hz hn,fun k cs x hc hx=>by rw[uX (zW hc),uX (zW hx)];exact hR⟩
end
theorem AR{e:TypeId}{xs:List Int}{x:Int}(h:w.ownsRow base e 1 (I (some ⟨g,0,none⟩) n c) n (xs.map (Value.int .i64)))(hk:k<n):(w.setCell ⟨g,k,none⟩ (D H x)).ownsRow base e 1 (I (some ⟨g,0,none⟩) n c) n ((xs.set k x).map (Value.int .i64)):=by rw[wX];exact AQ h (by omega)
theorem Cv{e:TypeId}{xs:List Int}(h:w.ownsRow base e 1 (I (some ⟨g,0,none⟩) n c) n (xs.map (Value.int .i64)))(hk:k<n):∃x,w.cell? ⟨g,k,none⟩=some (D H x)/\w.frozen? ⟨g,k,none⟩=false:=by
 have hl:xs.length=n:=by have:=h.1;simpa using this
 refine⟨xs[k]'(by omega),?_,?_⟩
 ·have:=h.cells (g:=g) rfl k (D H (xs[k]'(by omega))) (by simp[hl,hk]);rw[fa,yV]at this;exact this
 ·rcases h.2 with ⟨e0,_⟩|⟨g',cap,cur,e0,hb,hh,_⟩
  ·cases e0
  ·injection e0 with a1 _ _;injection a1 with a1;injection a1 with a1;subst a1;exact ae hh k
open _root_.Go.Proofs.Tryz
def tU(l:List dF)(id:gT):Option dF:=l.find? fun x=>decide (x.scan=id)
theorem Dg(v:Value)(t:r6)(si qi:Int)(w:World)(ht:aK p w v t) :
  Calls prog 39 #[v,.agg #[D H si,D H qi]] w fun e w'=>(∃x:dF,(tU t.sts ⟨si,qi⟩).getD ⟨⟨0,0⟩,0,⟨0,0,0,0⟩⟩=x/\e=.returned (.tuple #[.agg x.cells.toArray,.bool (tU t.sts ⟨si,qi⟩).isSome]))/\ab w w':=by
 obtain⟨vS,vG,rfl,hS,hG⟩:=ht;obtain⟨AG,nG,cG,rfl,-⟩:=hG.open_;obtain⟨A,n,c,rfl,hnc,hcc,hnn,HL⟩:=hS.open_;have HS:Bx (rA p w (I A n c) t.sts):=⟨hS⟩
 clear hS hG;have HF:Bx (aA w (((w.alloc (.cells #[I A n c,I AG nG cG] 59)).alloc (.cells #[D H si,D H qi] 43)).alloc (.cells #[D H 0,D H 0,D H 0,D H 0,D H 0,D H 0,D H 0] 67)) [(w.heap.size,#[I A n c,I AG nG cG],59),(w.heap.size+1,#[D H si,D H qi],43),(w.heap.size+1+1,#[D H 0,D H 0,D H 0,D H 0,D H 0,D H 0,D H 0],67)]):=⟨(((aA.start w).push _ _ rfl).push _ _ (by simp)).push _ _ (by simp)⟩
 go_enter func39,ntmps39
 go_upto_region 1 with (fail)
 obtain⟨w1,hw1⟩:=nm ((((w.alloc (.cells #[I A n c,I AG nG cG] 59)).alloc (.cells #[D H si,D H qi] 43)).alloc (.cells #[D H 0,D H 0,D H 0,D H 0,D H 0,D H 0,D H 0] 67)):World);rw[<-hw1]at HF;rw[<-hw1];clear hw1;go_wp2_with fail;go_loopw [6] (fun s6 wr=>∃k:Nat,s6=D H k/\k<=n/\Bx (aA w wr [(w.heap.size,#[I A n c,I AG nG cG],59),(w.heap.size+1,#[D H si,D H qi],43),(w.heap.size+1+1,#[D H 0,D H 0,D H 0,D H 0,D H 0,D H 0,D H 0],67)]/\∀(j:Nat) x,j<k->t.sts[j]?=some x->decide (x.scan=⟨si,qi⟩)=false)) (fun k _=>n-(intOf k).toNat)
 case atStart=>exact⟨0,rfl,by omega,⟨⟨HF.out,fun j x hj=>by omega⟩⟩⟩
 case round =>
  obtain⟨k,rfl,hk,HR⟩:=hrel;have HFr:Bx (aA w wr [(w.heap.size,#[I A n c,I AG nG cG],59),(w.heap.size+1,#[D H si,D H qi],43),(w.heap.size+1+1,#[D H 0,D H 0,D H 0,D H 0,D H 0,D H 0,D H 0],67)]):=⟨HR.out.1⟩
  have HN:Bx (∀(j:Nat) x,j<k->t.sts[j]?=some x->decide (x.scan=⟨si,qi⟩)=false):=⟨HR.out.2⟩
  have b0:=(HFr.out.at_ 0 rfl).c 0 rfl;clear HR HF;by_cases hkn:k<n
  ·obtain⟨b,off,_,_,rfl,-⟩:=HS.out.at_ hkn;obtain⟨cs,⟨⟨xs,xq⟩,xt,⟨xa,xb,xc,xd⟩⟩,-,hc0,⟨hcs,-⟩,HX⟩:=(HS.out.ext (cU.stab p) HFr.out.xt).cell_ hkn;have x0:=hc0 0 (D H xs) (by rw[hcs];rfl);have x1:=hc0 1 (D H xq) (by rw[hcs];rfl);have x2:=hc0 2 (D H xt) (by rw[hcs];rfl);have x3:=hc0 3 (D H xa) (by rw[hcs];rfl);have x4:=hc0 4 (D H xb) (by rw[hcs];rfl);have x5:=hc0 5 (D H xc) (by rw[hcs];rfl);have x6:=hc0 6 (D H xd) (by rw[hcs];rfl);rw[yQ]at x0;have kS:wr.drew.cell? ⟨w.heap.size,0,none⟩=some (I (some ⟨b,off,none⟩) n c)/\wr.drew.cell? ⟨b,off+k*7,none⟩=some (D H xs)/\wr.drew.cell? ⟨b,off+k*7+1,none⟩=some (D H xq)/\wr.drew.cell? ⟨w.heap.size+1,0,none⟩=some (D H si)/\wr.drew.cell? ⟨w.heap.size+1,1,none⟩=some (D H qi):=⟨b0,x0,x1,(HFr.out.drew.at_ 1 rfl).c 0 rfl,(HFr.out.drew.at_ 1 rfl).c 1 rfl⟩
   have HFd:Bx (aA w wr.drew [(w.heap.size,#[I (some ⟨b,off,none⟩) n c,I AG nG cG],59),(w.heap.size+1,#[D H si,D H qi],43),(w.heap.size+1+1,#[D H 0,D H 0,D H 0,D H 0,D H 0,D H 0,D H 0],67)]):=⟨HFr.out.drew⟩
   go_upto_region 4 with (fail)
   clear hc0 hcs;refine zR 99 (fun w'=>w'.cell? ⟨w.heap.size,0,none⟩=some (I (some ⟨b,off,none⟩) n c)/\w'.cell? ⟨b,off+k*7,none⟩=some (D H xs)/\w'.cell? ⟨b,off+k*7+1,none⟩=some (D H xq)/\w'.cell? ⟨w.heap.size+1,0,none⟩=some (D H si)/\w'.cell? ⟨w.heap.size+1,1,none⟩=some (D H qi)) ?_;have eL:∀W,(Op.equalIn 10000 43 (.agg #[D H xs,D H xq]) (.agg #[D H si,D H qi])).run prog W=.ok (decide (xs=si/\xq=qi)) W:=fun W=>jW _ _ _ _ W;have gL:=fC;by_cases h1:xs=si/\xq=qi
   ·rw[decide_eq_true h1]at eL;have HFD:Bx (tU t.sts ⟨si,qi⟩=some ⟨⟨xs,xq⟩,xt,⟨xa,xb,xc,xd⟩⟩):=⟨by unfold tU;exact ja HX.out (by rw[h1.1,h1.2];simp) fun j y hj hy=>HN.out j y hj hy⟩
    clear h1;refine zS 8 [(0,14),(1,15),(2,16),(3,17),(4,18),(5,19),(6,20),(7,21)] kS ?_;iterate 8 refine zT ?_
    refine zN (zD ?_);clear kS eL gL b0;have b0:=(HFd.out.at_ 0 rfl).c 0 rfl;obtain⟨z0,z1,z2,z3,z4,z5,z6⟩:=(HFr.out.at_ 2 rfl).p7 rfl;have f0:=(HFr.out.at_ 2 rfl).froz;have f1:=f0;have f2:=f0;have f3:=f0;have f4:=f0;have f5:=f0;have f6:=f0;go_wp2_with fail;have h9:=(HFr.out.setAll 2 rfl [D H xs,D H xq,D H xt,D H xa,D H xb,D H xc,D H xd] rfl).drew;refine bodyPost_ret (v:=.tuple #[.agg #[D H xs,D H xq,D H xt,D H xa,D H xb,D H xc,D H xd],.bool true]) (by simp[results,results39,go_sem,z0,z1,z2,z3,z4,z5,z6]) rfl ⟨⟨⟨⟨xs,xq⟩,xt,⟨xa,xb,xc,xd⟩⟩,by rw[HFD.out];rfl,by rw[HFD.out];rfl⟩,h9.xt⟩
   ·rw[decide_eq_false h1]at eL;have HN1:=zZ h1;clear h1;refine zS 8 [(0,14),(1,15),(2,16),(3,17),(4,18),(5,19),(6,20),(7,21)] kS ?_;iterate 8 refine zT ?_
    refine zN (zD ?_);clear kS eL gL;go_wp2_with fail;go_roundw
    case rel=>exact⟨k+1,by go_num,by omega,⟨⟨HFd.out,fun j y hj hy=>by rcases zU j k with h|h;exact HN.out j y h hy;obtain rfl:j=k:=(by omega);rw[HX.out]at hy;injection hy with hy;subst hy;exact decide_eq_false (fun e=>HN1.out (by injection e with e1 e2;exact⟨e1,e2⟩))⟩⟩⟩
    case measure=>simp[intOf];omega
  ·obtain rfl:k=n:=by omega
   have HFD:Bx (tU t.sts ⟨si,qi⟩=none):=⟨by unfold tU;exact mP fun j y hy=>HN.out j y (by have:=(zY.1 hy).1;have:=HL.out;omega) hy⟩
   obtain⟨z0,z1,z2,z3,z4,z5,z6⟩:=(HFr.out.at_ 2 rfl).p7 rfl;have f0:=(HFr.out.at_ 2 rfl).froz;have f1:=f0;have f2:=f0;have f3:=f0;have f4:=f0;have f5:=f0;have f6:=f0;go_wp2_with fail;have h9:=HFr.out.setAll 2 rfl [D H 0,D H 0,D H 0,D H 0,D H 0,D H 0,D H 0] rfl;refine bodyPost_ret (v:=.tuple #[.agg #[D H 0,D H 0,D H 0,D H 0,D H 0,D H 0,D H 0],.bool false]) (by simp[results,results39,go_sem,z0,z1,z2,z3,z4,z5,z6]) rfl ⟨⟨⟨⟨0,0⟩,0,⟨0,0,0,0⟩⟩,by rw[HFD.out];rfl,by rw[HFD.out];rfl⟩,h9.xt⟩
theorem Cp{l E:List aj}(hE:iT rV E)(hv:∀e∈E,dT e.st=true)(hi:∀e∈E,∀c∈l,e.id≠c.id)(hee:∀e∈E,∀e'∈E,e.id=e'.id->e=e')(ha:∀c∈l,dT c.st=true->∀e∈E,rV c e=true):ay (l++E)=ay l++E:=by
 refine (ir ?_ fun c=>?_).symm
 ·refine xJ.2 ⟨jE l,hE,fun a h1 b h2=>?_⟩;have:=gf.1 h1;exact ha a this.1 (eu.1 this.2).1 b h2
 ·rw[zM,gf,zM,eu,eu];constructor
  ·rintro (⟨h1,h2,h3⟩|h)
   ·refine⟨.inl h1,h2,fun d hd hdv hdi=>?_⟩;rcases zM.1 hd with hd|hd
    ·exact h3 d hd hdv hdi
    ·exact absurd hdi (hi d hd c h1)
   ·refine⟨.inr h,hv c h,fun d hd _ hdi=>?_⟩;rcases zM.1 hd with hd|hd
    ·exact absurd hdi.symm (hi c h d hd)
    ·exact hee d hd c h hdi
  ·rintro⟨h1,h2,h3⟩;rcases h1 with h1|h1
   ·exact .inl ⟨h1,h2,fun d hd=>h3 d (zM.2 (.inl hd))⟩
   ·exact .inr h1
section
variable {C E:List aj} {id:gT}
theorem pt(h:∀e∈E,dm id e=false):(C++E).find? (dm id)=C.find? (dm id):=by
 rw[List.find?_append];have:E.find? (dm id)=none:=by rw[List.find?_eq_none];intro e he;rw[h e he];simp
 rw[this];simp
theorem De(h:∀e∈E,dm id e=false){d:aj}(hd:(E.filter (fH id)).getLast?=some d):aQ (C++E) id=iI (C.find? (dm id)) (some d):=by unfold aQ;rw[pt h,xM,List.getLast?_append,hd];rfl
theorem CU(h:∀e∈E,dm id e=false)(hd:∀e∈E,fH id e=false):aQ (C++E) id=aQ C id:=by
 unfold aQ;have:E.filter (fH id)=[]:=by rw[List.filter_eq_nil_iff];intro e he;rw[hd e he];simp
 rw[pt h,xM,this,xN]
end
section
variable {s:dl}
theorem sT{x y:dH}:en x y=en y x:=by unfold en;rw[yE];simp only[uY,Bool.and_eq_false_iff,decide_eq_false_iff_not];exact⟨fun h=>h.imp (fun k e=>k e.symm) (fun k e=>k e.symm),fun h=>h.imp (fun k e=>k e.symm) (fun k e=>k e.symm)⟩
theorem BV{x y z:dH}(h:en x y=true):en x z=true\/en z y=true:=by
 unfold en at *
 simp only[uY,Bool.and_eq_false_iff,decide_eq_false_iff_not]at *;by_cases h1:z.cap.cont=x.cap.cont
 ·by_cases h2:z.cap.ch=x.cap.ch
  ·refine .inr ?_;rw[h1,h2];exact h
  ·exact .inl (.inr h2)
 ·exact .inl (.inl h1)
end
def IM(R:List dH)(c g:Int)(j:Nat):Bool:=match R[j]? with
 |some y=>y.fit&&(decide (y.lab.c=c)&&decide (y.lab.g=g))
 |none=>false
def ed(R:List dH)(k:Nat)(c g:Int):List Nat:=(List.range k).filter (IM R c g)
def kr(R:List dH)(y0:dH)(j:Nat):Bool:=match R[j]? with
 |some y=>en y0 y
 |none=>false
theorem zp(R:List dH)(k:Nat)(c g:Int):ed R (k+1) c g=if IM R c g k then ed R k c g++[k] else ed R k c g:=by
 unfold ed;rw[xP,xM];cases h:IM R c g k with
 |true=>rw[if_pos rfl,uC h];rfl
 |false=>rw[if_neg (by simp),uB (by simp[h])];simp
theorem lh{R:List dH}{j:Nat}{c g:Int}:j∈ed R k c g↔j<k/\IM R c g j=true:=by unfold ed;rw[xR,yX]
section
variable {s:dl} {l:List aj}
theorem kq{j:Nat}{x y:dH}(hx:(af s l)[i]?=some x)(hfx:x.fit=true)(hy:(af s l)[j]?=some y):IM (af s l) x.lab.c x.lab.g j=dB x y:=by
 unfold IM dB;rw[hy];simp only;cases hf:y.fit with
 |false=>rfl
 |true =>
  rw[yK,yK,yE];simp only[yT,decide_eq_true_eq];constructor
  ·rintro⟨h1,h2⟩;have ex:=(de hx).2;have ey:=(de hy).2;have gx:=(lK (s:=s) (l:=l) (c:=x.cap) (by rw[<-ex];exact hfx)).2.1;have gy:=(lK (s:=s) (l:=l) (c:=y.cap) (by rw[<-ey];exact hf)).2.1;rw[<-ex]at gx;rw[<-ey]at gy;exact BT gy gx h1 h2
  ·intro h;rw[h];exact⟨rfl,rfl⟩
theorem Ex{x:dH}(hx:(af s l)[i]?=some x)(hf:x.fit=true) :
  ∃j0 t y0,ed (af s l) l.length x.lab.c x.lab.g=j0::t/\j0<=i/\(af s l)[j0]?=some y0 /\
   dL (af s l) i x=if (j0::t).any (kr (af s l) y0) then 3 else if i=j0 then 1 else 2:=by
 have hil:i<l.length:=by have:=(zY.1 hx).1;rwa [jw]at this
 have hin:i∈ed (af s l) l.length x.lab.c x.lab.g:=lh.2 ⟨hil,by rw[kq hx hf hx];unfold dB;rw[hf];simp⟩;obtain⟨j0,t,hG⟩:∃j0 t,ed (af s l) l.length x.lab.c x.lab.g=j0::t:=by
  cases hg:ed (af s l) l.length x.lab.c x.lab.g with
  |nil=>rw[hg]at hin;simp at hin
  |cons a b=>exact⟨a,b,rfl⟩
 have hj0:=lh.1 (show j0∈ed (af s l) l.length x.lab.c x.lab.g by rw[hG];simp);have hy0:(af s l)[j0]?=some ((af s l)[j0]'(by rw[jw];exact hj0.1)):=zV _;generalize (af s l)[j0]'(by rw[jw];exact hj0.1)=y0 at hy0;have hasc:(j0::t).Pairwise (·<·):=by rw[<-hG];unfold ed;exact List.Pairwise.filter _ List.pairwise_lt_range
 have hj0i:j0<=i:=by
  rw[hG]at hin;rcases yM.1 hin with e|e
  ·omega
  ·have:=(xK.1 hasc).1 i e;omega
 refine⟨j0,t,y0,hG,hj0i,hy0,?_⟩;have hs0:dB x y0=true:=by rw[<-kq hx hf hy0];exact hj0.2
 unfold dL;have hany:((af s l).any fun y=>dB x y&&en x y)=(j0::t).any (kr (af s l) y0):=by
  rw[yE,wZ,wZ];constructor
  ·rintro⟨y,hy,hs⟩;obtain⟨h1,h2⟩:=Bool.and_eq_true_iff.1 hs;obtain⟨k,hk⟩:=zH hy;have hkl:k<l.length:=by have:=(zY.1 hk).1;rwa [jw]at this
   rcases BV (z:=y0) h2 with h3|h3
   ·refine⟨i,by rw[<-hG];exact hin,?_⟩;unfold kr;rw[hx];simp only;rw[sT];exact h3
   ·refine⟨k,?_,?_⟩
    ·rw[<-hG];exact lh.2 ⟨hkl,by rw[kq hx hf hk];exact h1⟩
    ·unfold kr;rw[hk];exact h3
  ·rintro⟨k,hk,hd⟩;rw[<-hG]at hk;obtain⟨h1,h2⟩:=lh.1 hk;unfold kr at hd;cases hy:(af s l)[k]? with
   |none=>rw[hy]at hd;cases hd
   |some y =>
    rw[hy]at hd;simp only at hd;rw[kq hx hf hy]at h2;rcases BV (z:=x) hd with h3|h3
    ·exact⟨y0,zW hy0,by rw[hs0,sT,h3];rfl⟩
    ·exact⟨y,zW hy,by rw[h2,h3];rfl⟩
 have htk:((af s l).take i).any (dB x)=!decide (i=j0):=by
  by_cases e:i=j0
  ·subst e;rw[decide_eq_true rfl];simp only[Bool.not_true,wO];intro y hy hs;obtain⟨k,hk⟩:=zH hy;rw[yB]at hk;split at hk
   ·rename_i hki
    have hm:k∈ed (af s l) l.length x.lab.c x.lab.g:=lh.2 ⟨by omega,by rw[kq hx hf hk];exact hs⟩;rw[hG]at hm;rcases yM.1 hm with e|e
    ·omega
    ·have:=(xK.1 hasc).1 k e;omega
   ·cases hk
  ·rw[decide_eq_false e];simp only[Bool.not_false,wZ];refine⟨y0,zW (i:=j0) ?_,hs0⟩;rw[yB,if_pos (by omega)];exact hy0
 rw[hany,htk];by_cases e:i=j0
 ·simp[e]
 ·simp[e]
end
theorem yo(va vb:Value)(a b:List Int)(w:World)(ha:ak p w va a)(hb:ak q w vb b) :
  Calls prog 62 #[va,vb] w fun e w'=>e=.returned (.bool (decide (a=b)))/\ab w w':=by
 obtain⟨A,n,c,rfl,hnc,hc,hnn,HL⟩:=ha.open_;obtain⟨B,n',c',rfl,hnc',hc',hnn',HL'⟩:=hb.open_;have HA:=zZ ha;have HB:=zZ hb;clear ha hb;by_cases hn:n=n'
 ·subst hn;have e0:((n:Int)!=(n:Int))=false:=by simp
  go_enter func62,ntmps62
  go_wp2_with fail;go_loopw [13] (fun i wr=>∃(k m:Nat),k<=n/\i=D H k/\Hid (rB a b k)/\wr=w.drewN m) (fun i _=>n-(intOf i).toNat)
  case atStart=>exact⟨0,0,xL _,rfl,rB.zero _ _,rfl⟩
  case round =>
   obtain⟨k,m,hk,rfl,HK,rfl⟩:=hrel;by_cases hlt:k<n
   ·obtain⟨b1,o1,x,rfl,hcx,HX,hx1,hx2⟩:=HA.out.at_ hlt;obtain⟨b2,o2,y,rfl,hcy,HY,hy1,hy2⟩:=HB.out.at_ hlt;by_cases e:x=y
    ·have e1:(x != y)=false:=by simp[e]
     have E:=zZ e;clear e;go_wp2_with fail;go_quiet (fail)
     go_wp2_with fail;go_roundw
     case rel=>exact⟨k+1,_,by omega,by go_num,HK.out.succ HX.out HY.out E.out,rfl⟩
     case measure=>simp[intOf];omega
    ·have e1:(x != y)=true:=by simp[e]
     have E:=zZ e;clear e;go_wp2_with fail;go_quiet (fail)
     go_wp2_with fail;go_ret
     exact⟨aa (by have:=JZ HX.out HY.out E.out;simp[this]),by rw[World.drewN_drewN];exact (zE _).drewN _⟩
   ·obtain rfl:k=n:=by omega
    go_wp2_with fail;go_ret
    exact⟨aa (by have:=HK.out.all HL.out HL'.out;simp[this]),(zE _).drewN _⟩
 ·have e1:((n:Int)!=(n':Int))=true:=by simp;omega
  have HN:Hid (a≠b):=by rintro rfl;exact hn (HL.out.symm.trans HL'.out)
  clear hn;go_enter func62,ntmps62
  go_wp2_with fail;go_ret
  exact⟨aa (by have:=HN.out;simp[this]),zE _⟩
theorem jq(xt xs xq xk xct xts xtq xlp xlc xlg xlv yt ys yq yk yct yts ytq ylp ylc ylg ylv:Int)(xstr ystr:List UInt8)(xch ych:List Int)(xA yA:Option Addr)(xn xcc yn ycc:Nat)(w:World)(ha:ak p w (I xA xn xcc) xch)(hb:ak q w (I yA yn ycc) ych) :
  Calls prog 26 #[.agg #[D H xt,D H xs,D H xq,D H xk,.string (ba xstr),D H xct,I xA xn xcc,D H xts,D H xtq,D H xlp,D H xlc,D H xlg,D H xlv],.agg #[D H yt,D H ys,D H yq,D H yk,.string (ba ystr),D H yct,I yA yn ycc,D H yts,D H ytq,D H ylp,D H ylc,D H ylg,D H ylv]] w fun e w'=>e=.returned (.bool (decide ((⟨⟨xt,xs,xq⟩,xk,xstr,xct,xch,⟨xts,xtq⟩,⟨xlp,xlc,xlg,xlv⟩⟩:aj)=⟨⟨yt,ys,yq⟩,yk,ystr,yct,ych,⟨yts,ytq⟩,⟨ylp,ylc,ylg,ylv⟩⟩)))/\ab w w':=by
 have e1:=fun W=>vx xt xs xq yt ys yq W;have e2:=fun W=>jW xts xtq yts ytq W;have e3:=fun W=>ox xlp xlc xlg xlv ylp ylc ylg ylv W;have g1:=nt;have g2:=fC;have g3:=ij;have HA:Bx (ak p w (I xA xn xcc) xch/\ak q w (I yA yn ycc) ych):=⟨⟨ha,hb⟩⟩
 clear ha hb;go_enter func26,ntmps26
 go_wp2_with (go_at_call 62;refine (yo _ _ xch ych _ (HA.out.1.ext (((zE _).alloc _).alloc _)) (HA.out.2.ext (((zE _).alloc _).alloc _))).mono ?_;rintro e w1 ⟨rfl,hx1⟩;have HE:=zZ ((((zE w).alloc _).alloc _).trans hx1);have q07:w1.cell? ⟨w.heap.size,7,none⟩=some (D H xts):=hx1.cell (by simp[go_sem,yI,yH]);have q08:w1.cell? ⟨w.heap.size,8,none⟩=some (D H xtq):=hx1.cell (by simp[go_sem,yI,yH]);have q09:w1.cell? ⟨w.heap.size,9,none⟩=some (D H xlp):=hx1.cell (by simp[go_sem,yI,yH]);have q010:w1.cell? ⟨w.heap.size,10,none⟩=some (D H xlc):=hx1.cell (by simp[go_sem,yI,yH]);have q011:w1.cell? ⟨w.heap.size,11,none⟩=some (D H xlg):=hx1.cell (by simp[go_sem,yI,yH]);have q012:w1.cell? ⟨w.heap.size,12,none⟩=some (D H xlv):=hx1.cell (by simp[go_sem,yI,yH]);have q17:w1.cell? ⟨w.heap.size+1,7,none⟩=some (D H yts):=hx1.cell (by simp[go_sem,yI,yH]);have q18:w1.cell? ⟨w.heap.size+1,8,none⟩=some (D H ytq):=hx1.cell (by simp[go_sem,yI,yH]);have q19:w1.cell? ⟨w.heap.size+1,9,none⟩=some (D H ylp):=hx1.cell (by simp[go_sem,yI,yH]);have q110:w1.cell? ⟨w.heap.size+1,10,none⟩=some (D H ylc):=hx1.cell (by simp[go_sem,yI,yH]);have q111:w1.cell? ⟨w.heap.size+1,11,none⟩=some (D H ylg):=hx1.cell (by simp[go_sem,yI,yH]);have q112:w1.cell? ⟨w.heap.size+1,12,none⟩=some (D H ylv):=hx1.cell (by simp[go_sem,yI,yH]);clear hx1);all_goals (go_ret;refine⟨aa ?_,?_⟩)
 all_goals (first|exact HE.out|exact ((zE _).alloc _).alloc _|(rw[yE];simp only[decide_eq_true_eq,J4];simp_all)|skip)
 all_goals trace_state
theorem ui(t s q k ct ts tq lp lc lg lv:Int)(b:ByteArray)(A:Option Addr)(n cc:Nat)(w:World) :
  Calls prog 67 #[.agg #[D H t,D H s,D H q,D H k,.string b,D H ct,I A n cc,D H ts,D H tq,D H lp,D H lc,D H lg,D H lv]] w fun e w'=>e=.returned (.agg #[D H s,D H q])/\ab w w':=by
 go_enter func67,ntmps67
 go_wp2_with fail;exact bodyPost_ret (v:=.agg #[D H s,D H q]) (by simp[results,results67,go_sem]) rfl ⟨rfl,((zE _).alloc _).alloc _⟩
theorem Ih(t s q k ct ts tq lp lc lg lv:Int)(b:ByteArray)(A:Option Addr)(n cc:Nat)(w:World) :
  Calls prog 58 #[.agg #[D H t,D H s,D H q,D H k,.string b,D H ct,I A n cc,D H ts,D H tq,D H lp,D H lc,D H lg,D H lv]] w fun e w'=>e=.returned (.agg #[D H t,D H s,D H q])/\ab w w':=by
 go_enter func58,ntmps58
 go_wp2_with fail;exact bodyPost_ret (v:=.agg #[D H t,D H s,D H q]) (by simp[results,results58,go_sem]) rfl ⟨rfl,((zE _).alloc _).alloc _⟩
theorem mG(v:Value)(t:r6)(si qi:Int)(w:World)(ht:aK p w v t) :
  Calls prog 38 #[v,.agg #[D H si,D H qi]] w fun e w'=>(∃x:dF,(tU t.sts ⟨si,qi⟩).getD ⟨⟨0,0⟩,0,⟨0,0,0,0⟩⟩=x/\e=.returned (.tuple #[.agg x.cells.toArray,.bool (tU t.sts ⟨si,qi⟩).isSome]))/\ab w w':=by
 obtain⟨vS,vG,rfl,hS,hG⟩:=ht;obtain⟨AG,nG,cG,rfl,-⟩:=hG.open_;obtain⟨A,n,c,rfl,hnc,hcc,hnn,HL⟩:=hS.open_;have HS:Bx (rA p w (I A n c) t.sts):=⟨hS⟩
 clear hS hG;have HF:Bx (aA w (((w.alloc (.cells #[I A n c,I AG nG cG] 59)).alloc (.cells #[D H si,D H qi] 43)).alloc (.cells #[D H 0,D H 0,D H 0,D H 0,D H 0,D H 0,D H 0] 67)) [(w.heap.size,#[I A n c,I AG nG cG],59),(w.heap.size+1,#[D H si,D H qi],43),(w.heap.size+1+1,#[D H 0,D H 0,D H 0,D H 0,D H 0,D H 0,D H 0],67)]):=⟨(((aA.start w).push _ _ rfl).push _ _ (by simp)).push _ _ (by simp)⟩
 go_enter func38,ntmps38
 go_upto_region 1 with (fail)
 obtain⟨w1,hw1⟩:=nm ((((w.alloc (.cells #[I A n c,I AG nG cG] 59)).alloc (.cells #[D H si,D H qi] 43)).alloc (.cells #[D H 0,D H 0,D H 0,D H 0,D H 0,D H 0,D H 0] 67)):World);rw[<-hw1]at HF;rw[<-hw1];clear hw1;have bS:=(HF.out.at_ 0 rfl).c 0 rfl;go_wp2_with fail;clear bS;go_loopw [11] (fun s6 wr=>∃k:Nat,s6=D H k/\k<=n/\Bx (aA w wr [(w.heap.size,#[I A n c,I AG nG cG],59),(w.heap.size+1,#[D H si,D H qi],43),(w.heap.size+1+1,#[D H 0,D H 0,D H 0,D H 0,D H 0,D H 0,D H 0],67)]/\∀(j:Nat) x,j<k->t.sts[j]?=some x->decide (x.scan=⟨si,qi⟩)=false)) (fun k _=>n-(intOf k).toNat)
 case atStart=>exact⟨0,rfl,by omega,⟨⟨HF.out,fun j x hj=>by omega⟩⟩⟩
 case round =>
  obtain⟨k,rfl,hk,HR⟩:=hrel;have HFr:Bx (aA w wr [(w.heap.size,#[I A n c,I AG nG cG],59),(w.heap.size+1,#[D H si,D H qi],43),(w.heap.size+1+1,#[D H 0,D H 0,D H 0,D H 0,D H 0,D H 0,D H 0],67)]):=⟨HR.out.1⟩
  have HN:Bx (∀(j:Nat) x,j<k->t.sts[j]?=some x->decide (x.scan=⟨si,qi⟩)=false):=⟨HR.out.2⟩
  have b0:=(HFr.out.at_ 0 rfl).c 0 rfl;clear HR HF;by_cases hkn:k<n
  ·obtain⟨b,off,_,_,rfl,-⟩:=HS.out.at_ hkn;obtain⟨cs,⟨⟨xs,xq⟩,xt,⟨xa,xb,xc,xd⟩⟩,-,hc0,⟨hcs,-⟩,HX⟩:=(HS.out.ext (cU.stab p) HFr.out.xt).cell_ hkn;have x0:=hc0 0 (D H xs) (by rw[hcs];rfl);have x1:=hc0 1 (D H xq) (by rw[hcs];rfl);have x2:=hc0 2 (D H xt) (by rw[hcs];rfl);have x3:=hc0 3 (D H xa) (by rw[hcs];rfl);have x4:=hc0 4 (D H xb) (by rw[hcs];rfl);have x5:=hc0 5 (D H xc) (by rw[hcs];rfl);have x6:=hc0 6 (D H xd) (by rw[hcs];rfl);rw[yQ]at x0;have HFx:=bx (HFr.out.ext ((zE wr).alloc (.cells #[D H xs,D H xq,D H xt,D H xa,D H xb,D H xc,D H xd] 67)));obtain⟨i0,i1⟩:=(HFx.out.at_ 1 rfl).p2 rfl;clear hc0 hcs b0;have eL:∀W,(Op.equalIn 10000 43 (.agg #[D H xs,D H xq]) (.agg #[D H si,D H qi])).run prog W=.ok (decide (xs=si/\xq=qi)) W:=fun W=>jW _ _ _ _ W;have gL:=fC;by_cases h1:xs=si/\xq=qi
   ·rw[decide_eq_true h1]at eL;have HFD:Bx (tU t.sts ⟨si,qi⟩=some ⟨⟨xs,xq⟩,xt,⟨xa,xb,xc,xd⟩⟩):=⟨by unfold tU;exact ja HX.out (by rw[h1.1,h1.2];simp) fun j y hj hy=>HN.out j y hj hy⟩
    clear h1;obtain⟨z0,z1,z2,z3,z4,z5,z6⟩:=(HFx.out.at_ 2 rfl).p7 rfl;have f0:=(HFx.out.at_ 2 rfl).froz;have f1:=f0;have f2:=f0;have f3:=f0;have f4:=f0;have f5:=f0;have f6:=f0;go_wp2_with fail;have h9:=(HFx.out.setAll 2 rfl [D H xs,D H xq,D H xt,D H xa,D H xb,D H xc,D H xd] rfl)
    refine bodyPost_ret (v:=.tuple #[.agg #[D H xs,D H xq,D H xt,D H xa,D H xb,D H xc,D H xd],.bool true]) (by simp[results,results38,go_sem,z0,z1,z2,z3,z4,z5,z6]) rfl ⟨⟨⟨⟨xs,xq⟩,xt,⟨xa,xb,xc,xd⟩⟩,by rw[HFD.out];rfl,by rw[HFD.out];rfl⟩,h9.xt⟩
   ·rw[decide_eq_false h1]at eL;have HN1:=zZ h1;clear h1;go_wp2_with fail;go_roundw
    case rel=>exact⟨k+1,by go_num,by omega,⟨⟨HFx.out,fun j y hj hy=>by rcases zU j k with h|h;exact HN.out j y h hy;obtain rfl:j=k:=(by omega);rw[HX.out]at hy;injection hy with hy;subst hy;exact decide_eq_false (fun e=>HN1.out (by injection e with e1 e2;exact⟨e1,e2⟩))⟩⟩⟩
    case measure=>simp[intOf];omega
  ·obtain rfl:k=n:=by omega
   have HFD:Bx (tU t.sts ⟨si,qi⟩=none):=⟨by unfold tU;exact mP fun j y hy=>HN.out j y (by have:=(zY.1 hy).1;have:=HL.out;omega) hy⟩
   obtain⟨z0,z1,z2,z3,z4,z5,z6⟩:=(HFr.out.at_ 2 rfl).p7 rfl;have f0:=(HFr.out.at_ 2 rfl).froz;have f1:=f0;have f2:=f0;have f3:=f0;have f4:=f0;have f5:=f0;have f6:=f0;go_wp2_with fail;have h9:=HFr.out.setAll 2 rfl [D H 0,D H 0,D H 0,D H 0,D H 0,D H 0,D H 0] rfl;refine bodyPost_ret (v:=.tuple #[.agg #[D H 0,D H 0,D H 0,D H 0,D H 0,D H 0,D H 0],.bool false]) (by simp[results,results38,go_sem,z0,z1,z2,z3,z4,z5,z6]) rfl ⟨⟨⟨⟨0,0⟩,0,⟨0,0,0,0⟩⟩,by rw[HFD.out];rfl,by rw[HFD.out];rfl⟩,h9.xt⟩
def pb(l:List aj)(y:aj)(j:Nat):Bool:=match l[j]? with
 |some z=>!(decide (z.cont=y.cont)&&decide (z.ch=y.ch))
 |none=>false
def FZ(b:Bool)(i j0:Nat):Int:=if b then 3 else if i=j0 then 1 else 2
theorem uc(v vg:Value)(l:List aj)(js:List Nat)(i j0:Nat)(y0:aj)(w:World)(hv:au p w v l)(hg:ak q w vg (js.map fun j:Nat=>(j:Int)))(h0:js[0]?=some j0)(hy:l[j0]?=some y0)(hin:∀j∈js,j<l.length) :
  Calls prog 71 #[v,vg,D H (i:Int)] w fun e w'=>e=.returned (D H (FZ (js.any (pb l y0)) i j0))/\ab w w':=by
 obtain⟨A,n,c,rfl,hnc,hcc,hnn,HL⟩:=hv.open_;obtain⟨B,m,cb,rfl,hmb,hcb,hmm,HM⟩:=hg.open_;have HV:Bx (au p w (I A n c) l):=⟨hv⟩
 have HML:Hid (js.length=m):=by have:=HM.out;show js.length=m;simpa using this
 have hm0:0<m:=by have:=(zY.1 h0).1;have:=HML.out;omega
 have hj0:j0<n:=by have:=(zY.1 hy).1;have:=HL.out;omega
 have HIN:=zZ hin;obtain⟨bB,oB,x,rfl,g0,HX0,-,-⟩:=hg.at_ hm0;have HG:Bx (ak q w (I (some ⟨bB,oB,none⟩) m cb) (js.map fun j:Nat=>(j:Int))):=⟨hg⟩
 obtain rfl:x=(j0:Int):=by have:=HX0.out;rw[zP,h0]at this;simpa using this.symm
 obtain⟨bA,oA,_,_,rfl,-⟩:=HV.out.at_ hj0;obtain⟨t,s,q',kd,ct,ts,tq,lp,lc,lg,lv,str,ch,Au,mu,cu,HX,hcs,hI0,-⟩:=au.read HV.out (XT.refl p w) hj0;obtain rfl:y0=⟨⟨t,s,q'⟩,kd,str,ct,ch,⟨ts,tq⟩,⟨lp,lc,lg,lv⟩⟩:=by have:=HX.out;rw[hy]at this;injection this
 have HI0:Bx (ak p w (I Au mu cu) ch):=⟨hI0⟩
 obtain⟨c0,c1,c2,c3,c4,c5,c6,c7,c8,c9,c10,c11,c12⟩:=hcs;rw[yQ]at g0;have HG0:=zZ g0;have HD:Bx (∀j z,l[j]?=some z->pb l ⟨⟨t,s,q'⟩,kd,str,ct,ch,⟨ts,tq⟩,⟨lp,lc,lg,lv⟩⟩ j=!(decide (z.cont=ct)&&decide (z.ch=ch))):=⟨fun j z hz=>by unfold pb;rw[hz]⟩
 clear hv hg hin h0 hy hI0 HX HX0;obtain⟨w1,hw1⟩:=nm ((w.alloc (.cells #[D H t,D H s,D H q',D H kd,.string (ba str),D H ct,I Au mu cu,D H ts,D H tq,D H lp,D H lc,D H lg,D H lv] 47)):World);have HF:Bx (aA w w1 [(w.heap.size,#[D H t,D H s,D H q',D H kd,.string (ba str),D H ct,I Au mu cu,D H ts,D H tq,D H lp,D H lc,D H lg,D H lv],47)]):=⟨by rw[hw1];exact (aA.start w).push _ _ rfl⟩
 go_enter func71,ntmps71
 go_upto_region 2 with (fail)
 rw[<-hw1];clear hw1 c0 c1 c2 c3 c4 c5 c6 c7 c8 c9 c10 c11 c12 g0;go_wp2_with fail;go_loopw [18] (fun s18 wr=>∃k:Nat,s18=D H k/\k<=m/\Bx (aA w wr [(w.heap.size,#[D H t,D H s,D H q',D H kd,.string (ba str),D H ct,I Au mu cu,D H ts,D H tq,D H lp,D H lc,D H lg,D H lv],47)]/\∀(x:Nat) j,x<k->js[x]?=some j->pb l ⟨⟨t,s,q'⟩,kd,str,ct,ch,⟨ts,tq⟩,⟨lp,lc,lg,lv⟩⟩ j=false)) (fun k _=>m-(intOf k).toNat)
 case atStart=>exact⟨0,rfl,by omega,⟨⟨HF.out,fun x j hx=>by omega⟩⟩⟩
 case round =>
  obtain⟨k,rfl,hk,HR⟩:=hrel;have HFr:Bx (aA w wr [(w.heap.size,#[D H t,D H s,D H q',D H kd,.string (ba str),D H ct,I Au mu cu,D H ts,D H tq,D H lp,D H lc,D H lg,D H lv],47)]):=⟨HR.out.1⟩
  have HN:=zZ HR.out.2;clear HF HR;by_cases hkm:k<m
  ·obtain⟨x,gk,HXk,-,-⟩:=(HG.out.ext HFr.out.xt).cell_ hkm;obtain⟨j,HJ,hxj⟩:∃j:Nat,Hid (js[k]?=some j)/\x=(j:Int):=by
    have:=HXk.out;rw[zP,yO]at this;obtain⟨j,h1,h2⟩:=this;exact⟨j,h1,h2.symm⟩
   subst hxj;have hjn:j<n:=by have:=HIN.out j (zW HJ.out);have:=HL.out;omega
   obtain⟨t',s',q'',kd',ct',ts',tq',lp',lc',lg',lv',str',ch',Au',mu',cu',HX,hcs,hI',-⟩:=au.read HV.out HFr.out.xt.xt hjn;have HI':Bx (ak p wr (I Au' mu' cu') ch'):=⟨hI'⟩
   have x5:=hcs.c5;have x6:=hcs.c6;have y5:=(HFr.out.at_ 0 rfl).c 5 rfl;have y6:=(HFr.out.at_ 0 rfl).c 6 rfl;have HDJ:=zZ (HD.out j _ HX.out);clear hcs hI' HXk HX;simp only at HDJ;go_upto_region 5 with (fail)
   by_cases hct:ct'=ct
   ·have hcb1:(ct' != ct)=false:=by simp[hct]
    have HDK:=zZ (show pb l ⟨⟨t,s,q'⟩,kd,str,ct,ch,⟨ts,tq⟩,⟨lp,lc,lg,lv⟩⟩ j=!decide (ch'=ch) by rw[HDJ.out,decide_eq_true hct];rfl);replace hct:=zZ hct;refine zQ 99 fun wd kS=>?_;refine zS 16 [(0,22),(1,23),(2,24),(3,25),(4,26),(5,27),(6,28),(7,29),(8,30),(9,31),(10,32),(11,33),(12,34),(13,35),(14,36),(15,37)] kS ?_;iterate 16 refine zT ?_ (y:=by intro wk hk;obtain⟨_,_,_,_⟩:=zkc4 hk x5 x6 y5 y6;go_simp;try with_reducible rfl)
    refine zN (zO 16 (fun K hK=>?_));go_simp;refine (yo _ _ ch' ch _ (HI'.out.ext kS) (HI0.out.ext (HFr.out.xt.trans kS))).mono ?_;rintro e w3 ⟨rfl,hx3⟩;have kS2:ab wr w3:=kS.trans hx3;clear hx3;refine hK.out _ _ (fun _=>kS2) ?_;clear hK K;try simp only[kA]
    by_cases hch:ch'=ch
    ·have hd:decide (ch'=ch)=true:=decide_eq_true hch;have HE:=zZ (show pb l ⟨⟨t,s,q'⟩,kd,str,ct,ch,⟨ts,tq⟩,⟨lp,lc,lg,lv⟩⟩ j=false by rw[HDK.out,hd];rfl);replace hch:=zZ hch;rw[hd];clear hd;refine zS 2 [(17,39),(18,40)] kS2 ?_;iterate 2 refine zT ?_
     refine zN (zD ?_);go_wp2_with fail;go_roundw
     case rel=>exact⟨k+1,by go_num,by omega,⟨⟨HFr.out.ext kS2,fun x y hx hy=>by rcases zU x k with h|h;exact HN.out x y h hy;obtain rfl:x=k:=(by omega);rw[HJ.out]at hy;injection hy with hy;subst hy;exact HE.out⟩⟩⟩
     case measure=>simp[intOf];omega
    ·have hd:decide (ch'=ch)=false:=decide_eq_false hch;have HE:=zZ (show js.any (pb l ⟨⟨t,s,q'⟩,kd,str,ct,ch,⟨ts,tq⟩,⟨lp,lc,lg,lv⟩⟩)=true from wZ.2 ⟨j,zW HJ.out,by rw[HDK.out,hd];rfl⟩);replace hch:=zZ hch;rw[hd];clear hd;refine zS 2 [(17,39),(18,40)] kS2 ?_;iterate 2 refine zT ?_
     refine zN (zD ?_);go_wp2_with fail;go_ret
     exact⟨ag (by rw[HE.out];rfl),HFr.out.xt.trans kS2⟩
   ·have hcb1:(ct' != ct)=true:=by simp[hct]
    have HE:=zZ (show js.any (pb l ⟨⟨t,s,q'⟩,kd,str,ct,ch,⟨ts,tq⟩,⟨lp,lc,lg,lv⟩⟩)=true from wZ.2 ⟨j,zW HJ.out,by rw[HDJ.out,decide_eq_false hct];rfl⟩);replace hct:=zZ hct;refine zQ 99 fun wd kS=>?_;refine zS 19 [(0,22),(1,23),(2,24),(3,25),(4,26),(5,27),(6,28),(7,29),(8,30),(9,31),(10,32),(11,33),(12,34),(13,35),(14,36),(15,37),(16,38),(17,39),(18,40)] kS ?_;iterate 9 refine zT ?_ (y:=by intro wk hk;obtain⟨_,_,_,_⟩:=zkc4 hk x5 x6 y5 y6;go_simp;try with_reducible rfl)
    iterate 9 (apply zK;exact⟨rfl,rfl⟩;simp only[kA];exact rfl)
    refine zT ?_ (y:=by intro wk hk;obtain⟨_,_,_,_⟩:=zkc4 hk x5 x6 y5 y6;go_simp;try with_reducible rfl);refine zN (zD ?_);go_wp2_with fail;go_ret
    exact⟨ag (by rw[HE.out];rfl),HFr.out.xt.trans kS⟩
  ·obtain rfl:m=k:=by omega
   have HE:=zZ (show js.any (pb l ⟨⟨t,s,q'⟩,kd,str,ct,ch,⟨ts,tq⟩,⟨lp,lc,lg,lv⟩⟩)=false from wO.2 fun j hj=>by obtain⟨x,hx⟩:=zH hj;rw[HN.out x j (by have:=(zY.1 hx).1;have:=HML.out;omega) hx];simp)
   have gk:=HFr.out.xt.cell HG0.out;by_cases hi:i=j0
   ·subst hi;have hib:((i:Int)==(i:Int))=true:=by simp
    go_wp2_with fail;go_ret
    exact⟨ag (by rw[HE.out];unfold FZ;simp),HFr.out.xt⟩
   ·have hib:((i:Int)==(j0:Int))=false:=beq_eq_false_iff_ne.2 (by omega);have HI:=zZ hi;clear hi;go_wp2_with fail;go_ret
    exact⟨ag (by rw[HE.out];unfold FZ;rw[if_neg HI.out];rfl),HFr.out.xt⟩
end Go.Proofs.YtkaajgoeahahpaaGreatDoor

