import Derived.Test.YtpaidaphacoblaaGreatDoorK37
import Derived.Test.YtpaidaphacoblaaGreatDoorK38
set_option linter.all false
set_option maxRecDepth 100000
set_option maxHeartbeats 0
namespace Go.Proofs.YtpaidaphacoblaaGreatDoor
open Go.Value renaming int→B
open Go.IntKind renaming i64→C
open Go.RowKit _root_.Go.Proofs.Tryz
theorem Tryz.infoScs:(prog.info? 103).map (fun i=>(i.zero,i.size,i.bytes))=some (some (.agg #[B C 0,B C 0,B C 0,B C 0,B C 0,B C 0,B C 0]),7,56):=by kernel_rfl
theorem FC(n:Nat)(hn:n<=1000)(w:World):(Instr.makeSlice 42 (B C (n:Int)) (B C (n:Int))).run prog w=.ok (.slice (some ⟨w.heap.size,0,none⟩) n n) (w.alloc (.cells (madeCells #[B C 0,B C 0,B C 0,B C 0,B C 0,B C 0,B C 0] (n*7)) 103)):=by obtain⟨i,hi,h0,h1,h2⟩:=info_parts Tryz.infoScs;have h:=run_make (P:=prog) w 42 103 i _ underlying42 hi h0 .i64 .i64 n n (by omega) (Int.le_refl _) (by rw[h2];omega) (by omega);rw[yC,h1]at h;exact h
def lQ(x:dH):dF:=⟨x.cap.id,x.st,x.lab⟩
def Iv:dF:=⟨⟨0,0⟩,0,⟨0,0,0,0⟩⟩
theorem Ix:Iv.wf:=by
 have h:aU 0:=⟨by decide,by decide⟩
 exact⟨⟨h,h⟩,h,⟨h,h,h,h⟩⟩
structure kz (R:List dH) (W wr:World) (bs bm n i:Nat) (ss:List dF) (G:Value->List Nat):Prop where
 x:ab W wr
 st:ah bs 103 7 (cU W) wr (.slice (some ⟨bs,0,none⟩) n n) ss
 gr:fp prog 101 3 wr bm (bm+1) G
 sk:∀(j:Nat) x,j<i->R[j]?=some x->x.cap.kind=1->ss[j]?=some (lQ x)
 go:∀c g,G (r9 c g)=ed R i c g
 g1:W.heap.size<=bs
 g2:bs<bm
section
variable {R:List dH} {W wr w':World} {bs bm n i:Nat} {ss:List dF} {G:Value->List Nat} {x:dH}
theorem kz.ext(h:kz R W wr bs bm n i ss G)(e:ab wr w'):kz R W w' bs bm n i ss G:=⟨h.x.trans e,h.st.ext e,h.gr.ext e,h.sk,h.go,h.g1,h.g2⟩
theorem kz.lt(h:kz R W wr bs bm n i ss G):bm<wr.heap.size:=h.gr.lt
theorem GJ(hx:R[i]?=some x)(hf:x.fit=false)(h:∀c g,G (r9 c g)=ed R i c g):∀c g,G (r9 c g)=ed R (i+1) c g:=fun c g=>by rw[h,zp];rw[if_neg (by unfold IM;rw[hx];simp[hf])]
theorem kz.skip(h:kz R W wr bs bm n i ss G)(hx:R[i]?=some x)(hk:x.cap.kind≠1)(hf:x.fit=false):kz R W wr bs bm n (i+1) ss G :=
 ⟨h.x,h.st,h.gr,fun j y hj hy hk'=>by
  rcases zU j i with hl|hl
  ·exact h.sk j y hl hy hk'
  ·obtain rfl:j=i:=by omega
   rw[hx]at hy;injection hy with hy;subst hy;exact absurd hk' hk,GJ hx hf h.go,h.g1,h.g2⟩
theorem JJ(hx:R[i]?=some x)(hf:x.fit=true)(h:∀c g,G (r9 c g)=ed R i c g):∀c g,EV G (r9 x.lab.c x.lab.g) (G (r9 x.lab.c x.lab.g)++[i]) (r9 c g)=ed R (i+1) c g:=fun c g=>by
 rw[zp];by_cases e:c=x.lab.c/\g=x.lab.g
 ·obtain⟨rfl,rfl⟩:=e;rw[tn,if_pos (by unfold IM;rw[hx];simp[hf]),h]
 ·rw[wn (fun e'=>e (Js.1 e')),if_neg (by unfold IM;rw[hx];simp only[hf,yK,yT,decide_eq_true_eq];exact fun h=>e ⟨h.1.symm,h.2.symm⟩),h]
theorem He(hX:ab W wr)(hst:ah bs 103 7 (cU W) wr (.slice (some ⟨bs,0,none⟩) n n) ss)(hsk:∀(j:Nat) x,j<i->R[j]?=some x->x.cap.kind=1->ss[j]?=some (lQ x))(g1:W.heap.size<=bs)(g2:bs<bm)(hin:i<n)(hx:R[i]?=some x)(hgr:fp prog 101 3 wr bm (bm+1) G)(hgo:∀c g,G (r9 c g)=ed R (i+1) c g)(hw:(lQ x).wf) :
  kz R W (be wr bs (i*7) (lQ x).cells) bs bm n (i+1) (ss.set i (lQ x)) G:=by
 have hg:=ez bs (lQ x).cells wr (i*7);have hl:=hst.len;refine⟨hX.grown hg (fun kk e=>by injection e with e;omega),hst.putAll hin _ rfl ⟨rfl,hw⟩,hgr.kept hg (fun r e=>by injection e with e;omega),fun j y hj hy hk=>?_,hgo,g1,g2⟩;rw[yD];by_cases e:i=j
 ·subst e;rw[if_pos rfl,if_pos (by omega)];rw[hx]at hy;injection hy with hy;rw[hy]
 ·rw[if_neg e];exact hsk j y (by omega) hy hk
end
theorem nk{p:Nat}{w:World}{v:Value}{l:List aj}(h:au p w v l):∀c∈l,c.wf:=by obtain⟨A,c,hv,h1,h2,h4⟩:=h;intro x hx;obtain⟨k,hk⟩:=zH hx;obtain⟨b,off,cs,-,-,-,-,⟨u,-,-,hw⟩⟩:=h4 k x hk;exact hw
theorem DM{s:dl}{l:List aj}{c:aj}(hl:∀c∈l,c.wf)(hc:c.wf):(lQ (aM s l c)).wf:=by
 unfold aM;split
 ·obtain⟨lab,st,e⟩:∃lab st,aQ l c.id=(lab,st):=⟨_,_,rfl⟩
  rw[e];have hw:=jo hl e;have hs:=ku l c.id;rw[e]at hs;simp only at hs;refine⟨⟨hc.1.2.1,hc.1.2.2⟩,?_,hw⟩;simp only[lQ];split
  ·split
   ·exact⟨by decide,by decide⟩
   ·exact⟨by decide,by decide⟩
  ·exact⟨by omega,by omega⟩
 ·exact⟨⟨hc.1.2.1,hc.1.2.2⟩,⟨by simp only[lQ];decide,by simp only[lQ];decide⟩,kL⟩
theorem tX{w:World}{base e size n g:Nat}{v:Value}{xs:List Value}{cs:Array Value}{t:TypeId}(h:w.ownsRow base e size v n xs)(hb:Bk w g cs t)(ht:t≠e):v.ownBlock≠some g:=by
 rcases h.2 with ⟨rfl,_⟩|⟨g',cap,cur,rfl,_,hh,_⟩
 ·simp[Value.ownBlock]
 ·intro e';simp only[Value.ownBlock]at e';injection e' with e';subst e';unfold Bk at hb;rw[hh]at hb;injection hb with hb;injection hb with _ hb _;exact ht hb.symm
theorem G8(R:List dH)(k:Nat)(c g:Int):(ed R k c g).length<=k:=by unfold ed;exact yR (uP _ _) (by simp)
end Go.Proofs.YtpaidaphacoblaaGreatDoor

