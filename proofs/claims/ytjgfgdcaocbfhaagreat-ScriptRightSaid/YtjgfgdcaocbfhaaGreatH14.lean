import Derived.Test.YtjgfgdcaocbfhaaGreatRsQ
import Derived.StillTailTactics
import Derived.BigRegion
set_option linter.all false
set_option maxRecDepth 100000
set_option maxHeartbeats 0
namespace Go.Proofs.YtjgfgdcaocbfhaaGreat
open Go.Value renaming int→C,slice→E
open Go.IntKind renaming i64→D
open Go.RowKit _root_.Go.Proofs.Tryz
variable {l:List Int} {k n q:Nat} {g p v x:Int} {c s:List UInt8}
theorem Fa(h:l[k]?=some x)(h1:0≤x)(h2:x<32):(((ff l).getD k 0).n:Int)=x:=by
 rw[yD,vu h];show ((x.toNat%32:Nat):Int)=x
 omega
def jl(l:List Int)(c:List F)(k:Nat):Nat:=((mr l k).filter fun i=>!((ff l).getD i 0==c.getD i 0)).length
theorem Ct(l:List Int)(c:List F):jl l c l.length=(gt l c).length:=rfl
theorem ED{c:List F}(h:l[k]?=some x)(e:x=-1):jl l c (k+1)=jl l c k:=by unfold jl;rw[CW h e]
theorem DP{c:List F}(h:l[k]?=some x)(h1:0≤x)(h2:x<32)(e:x=((c.getD k 0).n:Int)):jl l c (k+1)=jl l c k:=by
 unfold jl;rw[tk h (by omega),yJ];have:(ff l).getD k 0=c.getD k 0:=F.ext (by have:=Fa h h1 h2;omega);have hf:[k].filter (fun i=>!((ff l).getD i 0==c.getD i 0))=[]:=by rw[wS,if_neg (by rw[this];simp)];rfl
 rw[hf,xU]
theorem D9{c:List F}(h:l[k]?=some x)(h1:0≤x)(h2:x<32)(e:x≠((c.getD k 0).n:Int)):jl l c (k+1)=jl l c k+1:=by
 unfold jl;rw[tk h (by omega),yJ,zI];have:(ff l).getD k 0≠c.getD k 0:=fun he=>e (by have:=Fa h h1 h2;rw[he]at this;exact this.symm);have hf:[k].filter (fun i=>!((ff l).getD i 0==c.getD i 0))=[k]:=by rw[wS,if_pos (by rw[beq_eq_false_iff_ne.2 this];rfl)];rfl
 rw[hf];rfl
theorem tX{p:Nat}(v:Value)(l:List Int)(w:World)(hI:ao p w v l)(hb:dt (-1) l=true) :
  Calls prog 151 #[v] w fun e w'=>∃A m c,e=.returned (E A m c)∧m=(fO l l.length).length∧m≤c∧c≤9223372036854775807∧w'.ownsRow w.heap.size 3 1 (E A m c) m ((ng (fO l l.length)).map (Value.int .i64))∧ab w w':=by
 obtain⟨A,n,c,rfl,hnc,hc,hnn,HL⟩:=hI.open_;have HI:=zZ hI;have hm:=ei hb;have HM:=zZ hm.2.2;have hn15:n≤15:=by have:=HL.out;omega
 obtain⟨i0,hi0,hz0,hz1,hz2⟩:=info_parts Tryz.infoI;clear hI hm hb;go_enter func151,ntmps151
 go_wp2_with fail;go_loopw [3,4] (fun s3 s4 wr=>∃(k m:Nat),s4=C D (k:Int)∧k≤n∧m≤k∧Hid ((fO l k).length=m∧wr.ownsRow w.heap.size 3 1 s3 m ((ng (fO l k)).map (Value.int .i64))∧ab w wr)) (fun _ i _=>n-(intOf i).toNat)
 case atStart=>exact⟨0,0,rfl,by omega,by omega,rfl,yW _ _ _ _,zE _⟩
 case round =>
  obtain⟨k,m,rfl,hk,hmk,HK⟩:=hrel;have HML:=zZ HK.out.1;have HO:=zZ HK.out.2.1;have HE:=zZ HK.out.2.2;clear HK;have hsz:=HE.out.size;by_cases hkn:k<n
  ·obtain⟨b,off,x,rfl,cx,hx,hx1,hx2⟩:=(HI.out.ext HE.out).at_ hkn;have hxb:=HM.out x (zU hx.out);by_cases hlo:x<0
   ·have HH:=zZ (DR hx.out (show x=-1 by omega));go_wp2_with (at_builtin;refine al _ rfl (.tmp 16) (.tmp 18) 22 rfl w.heap.size 3 i0 _ 8 underlying22 hi0 hz0 hz1 hz2 rfl u3 m _ rfl (HO.out.alloc _) _ _ rfl (by simp;rfl) rfl (by omega) (by omega) (by simp;omega) ?_;intro v4 w4 hown4 hg4;have HE4:=zZ (ab.grown (HE.out.alloc _) hg4 (ar HO.out));have HO4:=zZ hown4;clear hown4 hg4);go_roundw
    case rel =>
     refine⟨k+1,m+1,by go_num,by omega,by omega,by rw[HH.out,zI,HML.out];rfl,?_,HE4.out⟩;rw[HH.out];have e:ng (fO l k++[k])=ng (fO l k)++[(k:Int)]:=by simp[ng]
     rw[e,yN];exact HO4.out
    case measure=>simp[intOf];omega
   ·have HH:=zZ (Da hx.out (show x≠-1 by omega));go_wp2_with fail;go_roundw
    case rel=>exact⟨k+1,m,by go_num,by omega,by omega,by rw[HH.out];exact HML.out,by rw[HH.out];exact HO.out,HE.out⟩
    case measure=>simp[intOf];omega
  ·obtain rfl:k=n:=by omega
   go_wp2_with fail;go_ret
   obtain⟨A',c',rfl,h1,h2⟩:=mD HO.out;rw[HL.out];exact⟨A',m,c',rfl,HML.out.symm,h1,h2,HO.out,HE.out⟩
theorem ve{p:Nat}(v vc:Value)(l:List Int)(cw:List F)(w:World)(hI:ao p w v l)(hC:ao q w vc (wI cw))(hl:cw.length=l.length)(hb:dt (-1) l=true) :
  Calls prog 153 #[v,vc] w fun e w'=>e=.returned (C D ((gt l cw).length:Int))∧∃m,w'=w.drewN m:=by
 obtain⟨A,n,c,rfl,hnc,hc,hnn,HL⟩:=hI.open_;obtain⟨B,n',c',rfl,hnc',hc',hnn',HL'⟩:=hC.open_;obtain rfl:n'=n:=by have:=HL.out;have:=HL'.out;rw[dv]at this;omega
 have HI:=zZ hI;have HC:=zZ hC;have hm:=ei hb;have HM:=zZ hm.2.2;have hn15:n'≤15:=by have:=HL.out;omega
 have HCL:Hid (cw.length=n'):=hl.trans HL.out;clear hI hC hm hb hl HL';go_enter func153,ntmps153
 go_wp2_with fail;go_loopw [5,6] (fun s i wr=>∃(k m d:Nat),k≤n'∧i=C D k∧s=C D d∧d≤k∧Hid (d=jl l cw k)∧wr=w.drewN m) (fun _ i _=>n'-(intOf i).toNat)
 case atStart=>exact⟨0,0,0,yK _,rfl,rfl,by omega,rfl,rfl⟩
 case round =>
  obtain⟨k,m,d,hk,rfl,rfl,hd1,HK,rfl⟩:=hrel;by_cases hlt:k<n'
  ·obtain⟨b1,o1,x,rfl,hcx,HX,hx1,hx2⟩:=HI.out.at_ hlt;obtain⟨b2,o2,y,rfl,hcy,HY,hy1,hy2⟩:=HC.out.at_ hlt;have hxb:=HM.out x (zU HX.out);have hyc:y=((cw.getD k 0).n:Int):=by
    have h:=HY.out;unfold wI at h;rw[zL,F.getD_eq (w:=cw) (by have:=HCL.out;omega)]at h;injection h with h;exact h.symm
   have HYC:=zZ hyc;clear hyc;by_cases hneg:x<0
   ·have HS:=zZ (ED (c:=cw) HX.out (show x=-1 by omega));have e0:decide (x≥0)=false:=by simp;omega
    go_wp2_with fail;go_quiet (fail)
    go_wp2_with fail;go_roundw
    case rel=>exact⟨k+1,_,d,by omega,by go_num,rfl,by omega,by rw[HS.out];exact HK.out,rfl⟩
    case measure=>simp[intOf];omega
   have e0:decide (x≥0)=true:=by simp;omega
   by_cases e:x=y
   ·have e1:(x != y)=false:=by simp[e]
    have HS:=zZ (DP (c:=cw) HX.out (by omega) hxb.2 (e.trans HYC.out));clear e;go_wp2_with fail;go_quiet (fail)
    go_wp2_with fail;go_roundw
    case rel=>exact⟨k+1,_,d,by omega,by go_num,rfl,by omega,by rw[HS.out];exact HK.out,rfl⟩
    case measure=>simp[intOf];omega
   ·have e1:(x != y)=true:=by simp[e]
    have HS:=zZ (D9 (c:=cw) HX.out (by omega) hxb.2 (fun h=>e (h.trans HYC.out.symm)));clear e;go_wp2_with fail;go_quiet (fail)
    go_wp2_with fail;go_roundw
    case rel=>exact⟨k+1,_,d+1,by omega,by go_num,by go_num,by omega,by show _=_;rw[HS.out,HK.out],rfl⟩
    case measure=>simp[intOf];omega
  ·obtain rfl:k=n':=by omega
   go_wp2_with fail;go_ret
   refine⟨ah ?_,_,rfl⟩;rw[HK.out,←Ct,HL.out]
theorem lz{a c:List F}{ps:List Nat}:F.Off (sG 0 a ps) c ps↔F.Off a c ps:=by unfold F.Off;rw[rL];refine and_congr Iff.rfl (forall_congr' fun i=>imp_congr_right fun hi=>?_);rw[so,if_neg (fun h=>hi h.2)]
def An(l:List Int)(k:Nat):List Nat:=((List.range l.length).drop k).filter fun i=>!(l.getD i 0==-1)
theorem D5(l:List Int):An l 0=mr l l.length:=rfl
theorem Gb(h:l.length≤k):An l k=[]:=by unfold An;rw[List.drop_eq_nil_of_le (by simpa using h)];rfl
theorem tK(h:l[k]?=some x):An l k=(if x=-1 then An l (k+1) else k::An l (k+1)):=by
 have hk:=(zY.1 h).1;unfold An;rw[List.drop_eq_getElem_cons (by simpa using hk),wS,List.getElem_range,jC h];by_cases e:x=-1
 ·rw[if_pos e,e];rfl
 ·rw[if_neg e,if_pos (by simp[e])]
theorem Eb{α:Type}{S l:List α}{x:α}(h:S.Sublist (x::l)):S.Sublist l∨∃S',S=x::S'∧S'.Sublist l:=by
 cases h with
 |cons _ h=>exact .inl h
 |cons_cons _ h=>exact .inr ⟨_,rfl,h⟩
def GD(w:World)(l:List Int)(ps:List Nat)(more frm:Nat)(e:Ending)(w':World):Prop :=
 ∃(A:Option Addr) (n c:Nat) (b:Bool),e=.returned (.tuple #[E A n c,.bool b])∧ab w w' ∧
  (b=true→∃(cw:List F) (S:List Nat) (g:Nat),A=some ⟨g,0,none⟩∧n=l.length∧n≤c∧c≤9223372036854775807∧cw.length=l.length∧gD w.heap.size w' (E A n c) cw∧S.length≤more∧F.Off (ff l) cw (ps++S)∧F.Code cw) ∧
  (b=false→∀S,S.Sublist (An l frm)→S.length≤more→∀c,F.Off (ff l) c (ps++S)→¬F.Code c)
theorem tY(l:List Int)(hb:dt (-1) l=true):∀(more frm:Nat) (v vp:Value) (ps:List Nat) (w:World) (q q':Nat),ao q w v l→ao q' w vp (ng ps)→frm≤l.length→ps.length+more≤6→ps.Nodup →
  (∀p∈ps,p<l.length∧(l.getD p 0=-1∨p<frm))→(∀i,i<l.length→l.getD i 0=-1→i∈ps) →
  Calls prog 152 #[v,vp,C D (more:Int),C D (frm:Int)] w (GD w l ps more frm):=by
 intro more;induction more with
 |zero =>
  intro frm v vp ps w q q' hI hP hfr h6 hd hps her;obtain⟨A,n,c,rfl,hnc,hc,hnn,HL⟩:=hI.open_;obtain⟨Ap,u,cp,rfl,hpc,hpp,hpn,HLp⟩:=hP.open_;have hm:=ei hb;have HF:=zZ (me (E A n c) (E Ap u cp) l ps w hI hP (by omega) (by omega) hd (fun p hp=>(hps p hp).1) (by omega) (fun i x hi hx=>by have h1:=hm.2.2 x (zU hx);have h2:x≠-1:=fun e=>hi (her i (zY.1 hx).1 (by rw[jC hx,e]));omega))
  go_enter func152,ntmps152
  go_upto_if 22 with (go_at_call 117;refine HF.out.mono ?_;rintro e w1 ⟨g,cp1,cw,rfl,hg1,hg2,hcl,hown,hx1,hoff,huq⟩)
  have hcb:=sU (wd:=cw) (by omega) (by omega);replace hown:=zZ hown;rcases yF (gk (wI cw)) with hcc|hcc
  ·rw[hcc];go_wp2_with fail;go_ret2
   exact⟨_,_,_,true,rfl,hx1,fun _=>⟨cw,[],g,rfl,rfl,hg1,hg2,hcl,hown.out,zX _,by rw[xU];exact lz.1 hoff,hcb.1 hcc⟩,fun h=>by cases h⟩
  ·rw[hcc];go_wp2_with fail;go_ret2
   refine⟨none,0,0,false,rfl,hx1,(fun h=>by cases h),fun _ S hS hl c ho hc=>?_⟩;obtain rfl:S=[]:=yO (by omega);rw[xU]at ho;have:=huq c (lz.2 ho) hc;subst this;rw[hcb.2 hc]at hcc;cases hcc
 |succ m ih =>
  intro frm v vp ps w q q' hI hP hfr h6 hd hps her;have HIH:=zZ ih;clear ih;obtain⟨A,n,c,rfl,hnc,hc,hnn,HL⟩:=hI.open_;obtain⟨Ap,u,cp,rfl,hpc,hpp,hpn,HLp⟩:=hP.open_;have hm:=ei hb;have HF:=zZ (me (E A n c) (E Ap u cp) l ps w hI hP (by omega) (by omega) hd (fun p hp=>(hps p hp).1) (by omega) (fun i x hi hx=>by have h1:=hm.2.2 x (zU hx);have h2:x≠-1:=fun e=>hi (her i (zY.1 hx).1 (by rw[jC hx,e]));omega))
  rw[HL.out]at HF;obtain⟨mm,hmm⟩:=nm (m+1:Nat);rw[←hmm];have hn7:7≤n:=by have:=HL.out;omega
  have hn15:n≤15:=by have:=HL.out;omega
  have hu6:u+mm≤6:=by have:=HLp.out;rw[jT]at this;omega
  have HUL:Hid (ps.length=u):=by have:=HLp.out;rw[jT]at this;exact this
  have hz:((mm:Int)==0)=false:=by simp;omega
  have hm1:(mm:Int)-1=(m:Int):=by omega
  have hmb:mm≤6:=by omega
  have hm6:m≤5:=by omega
  have HMM:=zZ hmm;clear hmm;have hfn:frm≤n:=by have:=HL.out;omega
  have HM:=zZ hm.2.2;have HD:=zZ hd;have HPS:=zZ hps;have HER:=zZ her;have HI:=zZ hI;have HP:=zZ hP;clear hI hP hd hps her hm h6 hfr HLp;obtain⟨i0,hi0,hz0,hz1,hz2⟩:=info_parts Tryz.infoI;go_enter func152,ntmps152
  go_upto_if 22 with (go_at_call 117;refine HF.out.mono ?_;rintro e w1 ⟨g,cp1,cw,rfl,hg1,hg2,hcl,hown,hx1,hoff,huq⟩)
  have hcb:=sU (wd:=cw) (by omega) (by omega);replace hown:=zZ hown;replace hoff:=zZ hoff;replace huq:=zZ huq;replace hcb:=zZ hcb;replace hcl:=zZ hcl;replace hx1:=zZ hx1;clear HF;rcases yF (gk (wI cw)) with hcc|hcc
  ·rw[hcc];go_wp2_with fail;go_ret2
   exact⟨_,_,_,true,rfl,hx1.out,fun _=>⟨cw,[],g,rfl,HL.out.symm,hg1,hg2,hcl.out.trans HL.out.symm,hown.out,yK _,by rw[xU];exact lz.1 hoff.out,hcb.out.1 hcc⟩,fun h=>by cases h⟩
  rw[hcc];have HNIL:Hid (∀c,F.Off (ff l) c ps→¬F.Code c):=fun c ho hc=>by have:=huq.out c (lz.2 ho) hc;subst this;rw[hcb.out.2 hc]at hcc;cases hcc
  clear hcc hcb huq hoff hown hcl;go_wp2_with fail;go_loopw [12] (fun s12 wr=>∃(k:Nat),s12=C D (k:Int)∧frm≤k∧k≤n∧Hid (ab w wr∧∀S,S.Sublist (An l frm)→S.length≤mm→(∀c,F.Off (ff l) c (ps++S)→¬F.Code c)∨S.Sublist (An l k))) (fun i _=>n-(intOf i).toNat)
  case atStart=>exact⟨frm,rfl,by omega,by omega,hx1.out,fun S h _=>.inr h⟩
  case round =>
   clear hx1;obtain⟨k,rfl,hk0,hk,HK⟩:=hrel;have HE:=zZ HK.out.1;have HNO:=zZ HK.out.2;clear HK;by_cases hkn:k<n
   ·obtain⟨b,off,x,rfl,cx,hx,hx1,hx2⟩:=(HI.out.ext HE.out).at_ hkn;have hxb:=HM.out x (zU hx.out);by_cases hlo:x<0
    ·have HH:Hid (An l k=An l (k+1)):=by show _=_;rw[tK hx.out,if_pos (by omega)]
     go_wp2_with fail;go_roundw
     case rel=>exact⟨k+1,by go_num,by omega,by omega,HE.out,fun S h1 h2=>by rw[←HH.out];exact HNO.out S h1 h2⟩
     case measure=>simp[intOf];omega
    ·have HH:Hid (An l k=k::An l (k+1)):=by show _=_;rw[tK hx.out,if_neg (by omega)]
     have HPr:=zZ (HP.out.ext HE.out);have HKN:Hid (k ∉ ps):=fun hmem=>by
      rcases (HPS.out k hmem).2 with h|h
      ·rw[jC hx.out]at h;omega
      ·omega
     have HE3r:=zZ (zE wr);go_upto_region 13 with (first
      |(at_builtin;refine dj _ rfl (.tmp 38) (.tmp 39) 22 rfl wr.heap.size 3 i0 _ 8 underlying22 hi0 hz0 hz1 hz2 rfl (E none 0 0) 0 [] rfl (yW _ _ _ _) q' Ap u cp (ng ps) rfl HPr.out (by omega) (by omega) (zX _) ?_;intro v3 w3 hown3 hg3;have HE3:=zZ (ab.grown HE3r.out hg3 (by simp[Value.ownBlock]));have HO3:=zZ hown3;clear hown3 hg3)
      |(at_builtin;refine al _ rfl (.tmp 41) (.tmp 43) 22 rfl wr.heap.size 3 i0 _ 8 underlying22 hi0 hz0 hz1 hz2 rfl v3 _ _ rfl (HO3.out.alloc _) _ _ rfl (by simp;rfl) rfl (by omega) (by omega) (by have:=HE3.out.size;simp;omega) ?_;intro v4 w4 hown4 hg4;have HE4:=zZ (ab.grown (HE3.out.alloc _) hg4 (ar HO3.out));have HO4:=zZ hown4;clear hown4 hg4))
     have HO5:Hid (w4.ownsRow wr.heap.size 3 1 v4 (u+1) ((ng (ps++[k])).map (Value.int .i64))):=by
      have e:ng (ps++[k])=ng ps++[(k:Int)]:=by simp[ng]
      have h:=HO4.out;rw[yV,List.nil_append]at h;show World.ownsRow _ _ _ _ _ _ _
      rw[e,yN];exact h
     obtain⟨A4,c4,rfl,hA1,hA2⟩:=mD HO5.out;have HEw4:=zZ (HE.out.trans HE4.out);have HCA:Hid (Calls prog 152 #[E (some ⟨b,off,none⟩) n c,E A4 (u+1) c4,C D (m:Int),C D ((k:Int)+1)] w4 (GD w4 l (ps++[k]) m (k+1))):=by
      have h:=HIH.out (k+1) (E (some ⟨b,off,none⟩) n c) (E A4 (u+1) c4) (ps++[k]) w4 w4.heap.size w4.heap.size ((HI.out.ext HEw4.out).re (zX _))
       (ao.of_own' (p:=w4.heap.size) (e:=3) HO5.out (fun h=>by have:=(HO5.out.lt _ h).2;omega) (rF fun p hp=>by
        rcases zC.1 hp with h|h
        ·have:=(HPS.out p h).1;rw[HL.out]at this;omega
        ·simp at h;omega) (by rw[jT,zI,HUL.out];simp;omega))
       (by rw[HL.out];omega) (by rw[zI,HUL.out];simp;have:=HMM.out;omega)
       (by rw[List.nodup_append];refine⟨HD.out,by simp,fun a ha b hb' e=>?_⟩;simp at hb';subst e;subst hb';exact HKN.out ha)
       (fun p hp=>by
        rcases zC.1 hp with h|h
        ·have h1:=HPS.out p h;exact⟨h1.1,h1.2.imp id (fun e=>by omega)⟩
        ·simp at h;subst h;exact⟨by rw[HL.out];exact hkn,.inr (by omega)⟩)
       (fun i h1 h2=>wB _ (HER.out i h1 h2))
      rw[show (((k+1:Nat)):Int)=(k:Int)+1 by omega]at h;exact h
     have hs4:w.heap.size≤w4.heap.size:=HEw4.out.size;clear HO3 HO4 HO5 HE3 HE4 HPr;go_upto_if 55 with (go_at_call 152;refine HCA.out.mono ?_;rintro e w5 ⟨A5,n5,c5,b5,rfl,hx5,ht5,hf5⟩)
     replace ht5:=zZ ht5;replace hf5:=zZ hf5;have HE5:=zZ (HEw4.out.trans hx5);clear hx5 HCA HEw4;cases b5 with
     |true =>
      go_wp2_with fail;go_ret2
      obtain⟨cw',S,g',t1,t2,t3,t4,t5,t6,t7,t8,t9⟩:=ht5.out trivial;refine⟨A5,n5,c5,true,rfl,HE5.out,fun _=>⟨cw',k::S,g',t1,t2,t3,t4,t5,kP t6 hs4,by rw[HMM.out];simp;omega,by simpa using t8,t9⟩,fun h=>by cases h⟩
     |false =>
      go_wp2_with fail;go_roundw
      case rel =>
       refine⟨k+1,by go_num,by omega,by omega,HE5.out,fun S h1 h2=>?_⟩;rcases HNO.out S h1 h2 with h|h
       ·exact .inl h
       ·rw[HH.out]at h;rcases Eb h with h|⟨S',rfl,hs'⟩
        ·exact .inr h
        ·refine .inl fun c ho hc=>hf5.out rfl S' hs' (by have:=HMM.out;simp at h2;omega) c (by simpa using ho) hc
      case measure=>simp[intOf];omega
   ·obtain rfl:k=n:=by omega
    go_wp2_with fail;go_ret2
    refine⟨none,0,0,false,rfl,HE.out,(fun h=>by cases h),fun _ S hS hl c ho hc=>?_⟩;rcases HNO.out S hS hl with h|h
    ·exact h c ho hc
    ·rw[Gb (by rw[HL.out];exact zX _)]at h;obtain rfl:=List.eq_nil_of_sublist_nil h;rw[xU]at ho;exact HNIL.out c ho hc
theorem Es{c:List F}{S:List Nat}(hlen:c.length=l.length)(ho:F.Off (ff l) c (fO l l.length++S)):(gt l c).length≤S.length:=by
 refine ml _ _ ((List.nodup_append.1 (mN l l.length)).2.1.sublist (qY l c)) fun i hi=>?_;obtain⟨h1,h2⟩:=xY.1 hi;obtain⟨h3,h4⟩:=py.1 h1;refine Classical.byContradiction fun hns=>?_;have h5:=ho.2 i (fun hm=>by
  rcases zC.1 hm with h|h
  ·exact h4 (mC.1 h).2
  ·exact hns h)
 rw[F.getD_eq (w:=c) (by omega),F.getD_eq (w:=ff l) (by rw[cE];exact h3)]at h5;injection h5 with h5;rw[h5]at h2;simp at h2
def IE(w:World)(l:List Int)(e:Ending)(w':World):Prop :=
 ∃(A:Option Addr) (m c:Nat) (d:List F) (er k:Int),e=.returned (.tuple #[E A m c,C D er,C D k])∧ao w'.heap.size w' (E A m c) (wI d)∧ab w w' ∧
  (dt (-1) l=false→d=[]∧er=0∧k=2) ∧
  (dt (-1) l=true→(∃(cw:List F) (n:Nat),vM l cw n∧d=cw.take (l.length-6)∧er=n∧k=0)∨((∀cw n,¬vM l cw n)∧d=[]∧er=0∧k=25))
theorem ug(v:Value)(l:List Int)(w:World)(hI:ao q w v l) :
  Calls prog 123 #[v] w (IE w l):=by
 have h0:=hI.re (q:=w.heap.size) (zX _);obtain⟨A,n,c,rfl,hnc,hc,hnn,HL⟩:=hI.open_;have HI:=zZ h0;clear hI h0;rcases yF (dt (-1) l) with hb|hb;case inr =>
  go_enter func123,ntmps123
  go_wp2_with (go_at_call 150;refine (fR _ l (-1) _ HI.out (by omega) (by omega)).mono ?_;rintro e w1 ⟨rfl,HX1⟩;rw[hb]);go_ret3
  exact⟨none,0,0,[],0,2,rfl,ao.nil _ _,HX1,fun _=>⟨rfl,rfl,rfl⟩,fun h=>by rw[hb]at h;cases h⟩
 have hm:=ei hb;have HBW:=zZ hb;have hn7:7≤n:=by have:=HL.out;omega
 have hn15:n≤15:=by have:=HL.out;omega
 clear hm;go_enter func123,ntmps123
 go_upto_if 15 with (first
  |(go_at_call 150;refine (fR _ l (-1) _ HI.out (by omega) (by omega)).mono ?_;rintro e w1 ⟨rfl,HX1⟩;rw[hb];replace HX1:=zZ HX1)
  |(go_at_call 151;refine (tX _ l _ (HI.out.ext HX1.out) hb).mono ?_;rintro e w2 ⟨A2,m2,c2,rfl,hm2,hc21,hc22,ho2,hx2⟩;replace ho2:=zZ ho2;have HE2:=zZ (HX1.out.trans hx2);replace hm2:=zZ hm2))
 have hm2l:m2≤n:=by have:=DJ l l.length;have:=hm2.out;have:=HL.out;omega
 by_cases h6:6<m2
 ·go_wp2_with fail;go_ret3
  refine⟨none,0,0,[],0,25,rfl,ao.nil _ _,HE2.out,fun h=>(by rw[hb]at h;cases h),fun _=>.inr ⟨fun cw k hk=>?_,rfl,rfl,rfl⟩⟩;have:=hk.near;have:=hm2.out;omega
 obtain⟨mo,hmo⟩:=nm ((6-m2)/2:Nat);have hmo2:2*mo+m2≤6:=by omega
 have hmo3:6<2*(mo+1)+m2:=by omega
 have hq:Int.tdiv (6-(m2:Int)) 2=(mo:Int):=by rw[hmo,Int.tdiv_eq_ediv_of_nonneg (by omega)];omega
 have hs2:=HE2.out.size;have HCA:=zZ (tY l hb mo 0 (E A n c) (E A2 m2 c2) (fO l l.length) w2 w2.heap.size w2.heap.size ((HI.out.ext HE2.out).re (zX _))
  (ao.of_own' (p:=w2.heap.size) (e:=3) ho2.out (fun h=>by have:=(ho2.out.lt _ h).2;omega) (rF fun p hp=>by have:=Ak hp;have:=HL.out;omega) (by rw[jT];have:=hm2.out;omega))
  (yK _) (by have:=hm2.out;omega) ((List.nodup_append.1 (mN l l.length)).1) (fun p hp=>⟨Ak hp,.inl (mC.1 hp).2⟩) (fun i h1 h2=>mC.2 ⟨h1,h2⟩))
 clear hmo;go_upto_if 27 with (go_at_call 152;refine HCA.out.mono ?_;rintro e w3 ⟨A3,n3,c3,b3,rfl,hx3,ht3,hf3⟩)
 replace ht3:=zZ ht3;replace hf3:=zZ hf3;have HE3:=zZ (HE2.out.trans hx3);clear hx3 HCA;cases b3 with
 |false =>
  go_wp2_with fail;go_ret3
  refine⟨none,0,0,[],0,25,rfl,ao.nil _ _,HE3.out,fun h=>(by rw[hb]at h;cases h),fun _=>.inr ⟨fun cw k hk=>?_,rfl,rfl,rfl⟩⟩;have h1:=hk.near;have h2:=hm2.out;exact hf3.out trivial (gt l cw) (by rw[D5];exact qY l cw) (by rw[hk.err];omega) cw (BW hk.len) hk.code
 |true =>
  obtain⟨cw,S,g,rfl,hn3,hc31,hc32,hcl,ho3,hSl,hoff,hcode⟩:=ht3.out rfl;obtain rfl:n3=n:=hn3.trans HL.out;have HO3:=zZ ho3;have HCL:=zZ hcl;have HNR:Hid (vM l cw (gt l cw).length):=by have h1:=Es hcl hoff;have h2:=hm2.out;exact⟨hcl,hcode,rfl,by omega⟩
  have HCI:Hid (ao w3.heap.size w3 (E (some ⟨g,0,none⟩) n3 c3) (wI cw)):=ao.of_own' (p:=w3.heap.size) (e:=3) ho3 (fun h=>by have:=(ho3.lt _ h).2;omega) (pH _) (by rw[dv,hcl];have:=HL.out;omega);have HQ:Hid (∀m,Calls prog 153 #[E A n3 c,E (some ⟨g,0,none⟩) n3 c3] (w3.drewN m) fun e w'=>e=.returned (C D ((gt l cw).length:Int))∧∃k,w'=(w3.drewN m).drewN k):=fun m =>ve _ _ l cw _ ((HI.out.ext HE3.out).ext ((zE _).drewN m)) (HCI.out.ext ((zE _).drewN m)) hcl hb
  clear ho3 hcl hcode hoff hSl hn3 ht3 hf3;go_wp2_with fail;go_quiet ((go_at_call 153;exact Calls.quiet_of (HQ.out _)))
  go_wp2_with fail;go_ret3
  have HT:Hid (ao w3.heap.size w3 (E (some ⟨g,0,none⟩) (n3-6) c3) (wI (cw.take (n3-6)))):=by have h:=HCI.out.take (k:=n3-6) (by omega);rw[show (wI cw).take (n3-6)=wI (cw.take (n3-6)) from by simp[wI,List.map_take]]at h;exact h
  exact⟨some ⟨g,0,none⟩,n3-6,c3,cw.take (n3-6),_,0,rfl,HT.out.ext ((zE _).drewN _),HE3.out.drewN _,fun h=>(by rw[hb]at h;cases h),fun _=>.inl ⟨cw,_,HNR.out,by rw[HL.out],rfl,rfl⟩⟩
def lw(l:List Int)(n k:Nat):List F:=(ff l).take k++List.replicate (n+6-k) 0
theorem uT(hl:l.length=n)(hk:k≤n):(lw l n k).length=n+6:=by unfold lw;rw[zI,zF,cE,wG];omega
theorem Fe{y:F}(hl:l.length=n)(hx:l[k]?=some x)(hy:(y.n:Int)=x):(lw l n k).set k y=lw l n (k+1):=by
 have hk:=(zY.1 hx).1;unfold lw;have e1:((ff l).take k).length=k:=by rw[zF,cE];omega
 rw[List.set_append_right _ _ (by omega),e1,Nat.sub_self,show n+6-k=(n+6-(k+1))+1 by omega,List.replicate_succ,List.set_cons_zero];have e2:(ff l)[k]?=some y:=by
  rw[vu hx];have:x.toNat%32=y.n:=by have:=y.lt;omega
  congr 1
  exact F.ext this
 rw[ag e2,xV];rfl
theorem Du(hl:l.length=n):F.Off (sG 0 (ff (wI (lw l n n))) ((List.range 6).map fun i=>n+i)) (sl (ff l)) ((List.range 6).map fun i=>n+i):=by
 rw[lz,wi];have e0:(ff l).take n=ff l:=xM (by rw[cE];omega);refine⟨by rw[tP,cE,uT hl (zX _),hl],fun i hi=>?_⟩;unfold lw sl;rw[e0];rcases zV i n with h|h
 ·rw[zH (by rw[cE];omega),zH (by rw[cE];omega)]
 ·have:n+6≤i:=by
   rcases zV i (n+6) with h2|h2
   ·exact absurd (zJ.2 ⟨i-n,zB.2 (by omega),by omega⟩) hi
   ·exact h2
  rw[yH (by rw[zI,cE,(F.enc_code _).2];omega),yH (by rw[zI,cE,wG];omega)]
theorem sO(v:Value)(l:List Int)(w:World)(hI:ao q w v l) :
  Calls prog 89 #[v] w fun e w'=>∃A m c,e=.returned (.tuple #[E A m c,C D (tx l)])∧m=(pp l).length∧m≤c∧c≤9223372036854775807∧w'.ownsRow w.heap.size 3 1 (E A m c) m ((pp l).map (Value.int .i64))∧ab w w':=by
 have h0:=hI.re (q:=w.heap.size) (zX _);obtain⟨A,n,c,rfl,hnc,hc,hnn,HL⟩:=hI.open_;have HI:=zZ h0;clear hI h0;have hbad:∀w',jf l=false→ab w w'→∃A m c,Ending.returned (.tuple #[E none 0 0,C D 2])=.returned (.tuple #[E A m c,C D (tx l)])∧m=(pp l).length∧m≤c∧c≤9223372036854775807∧w'.ownsRow w.heap.size 3 1 (E A m c) m ((pp l).map (Value.int .i64))∧ab w w':=fun w' hd hx=>by
  refine⟨none,0,0,?_,?_,by omega,by omega,?_,hx⟩
  ·unfold tx;rw[hd];rfl
  ·unfold pp;rw[hd];rfl
  ·unfold pp;rw[hd];exact yW _ _ _ _
 have HBAD:=zZ hbad;clear hbad;by_cases h1:n<1
 ·go_enter func89,ntmps89
  go_wp2_with fail;go_ret2
  exact HBAD.out _ (by
   rcases yF (jf l) with h|h
   ·have:=pE h;have:=HL.out;omega
   ·exact h) (zE _)
 by_cases h9:9<n
 ·go_enter func89,ntmps89
  go_wp2_with fail;go_ret2
  exact HBAD.out _ (by
   rcases yF (jf l) with h|h
   ·have:=pE h;have:=HL.out;omega
   ·exact h) (zE _)
 have hmkI:=rq (n+6) (by omega);rw[show (((n+6:Nat)):Int)=(n:Int)+6 by omega]at hmkI;obtain⟨i0,hi0,hz0,hz1,hz2⟩:=info_parts Tryz.infoI;obtain⟨b,o,z,rfl,-⟩:=HI.out.at_ (k:=0) (by omega);have HG0:Hid (gD w.heap.size (w.alloc (.cells (madeCells #[C D 0] (n+6)) 3)) (E (some ⟨w.heap.size,0,none⟩) (n+6) (n+6)) (lw l n 0)):=by
  have h:=heap_alloc_new w (.cells (madeCells #[C D 0] (n+6)) 3);rw[qS]at h⊢;have hz:lw l n 0=List.replicate (n+6) 0:=by simp[lw]
  rw[hz];exact lk h (by rw[wG]) (zX _) (by omega)
 have HE0:=zZ ((zE w).alloc (.cells (madeCells #[C D 0] (n+6)) 3));go_enter func89,ntmps89
 go_wp2_with fail;go_loopw [6] (fun s6 wr=>∃(k:Nat),s6=C D (k:Int)∧k≤n∧Hid ((∀i x,i<k→l[i]?=some x→0≤x∧x<32)∧gD w.heap.size wr (E (some ⟨w.heap.size,0,none⟩) (n+6) (n+6)) (lw l n k)∧ab w wr)) (fun i _=>n-(intOf i).toNat)
 case atStart=>exact⟨0,rfl,by omega,fun i x h=>by omega,HG0.out,HE0.out⟩
 case round =>
  clear HG0 HE0 hmkI;obtain⟨k,rfl,hk,HK⟩:=hrel;have HV:=zZ HK.out.1;have HO:=zZ HK.out.2.1;have HE:=zZ HK.out.2.2;clear HK;have HZL:=zZ (uT (k:=k) HL.out hk);by_cases hkn:k<n
  ·obtain⟨x,cx,hx,hx1,hx2⟩:=(HI.out.ext HE.out).cell_ hkn;rcases yF (lX x) with hel|hel
   ·have hxb:0≤x∧x<32:=by unfold lX at hel;simp at hel;omega
    obtain⟨y,hy⟩:∃y:F,(y.n:Int)=x:=⟨F.mk x.toNat (by omega),by rw[F.n_mk];omega⟩
    subst hy;obtain⟨z0,hz0'⟩:∃z0,(lw l n k)[k]?=some z0:=⟨_,zW (by rw[HZL.out];omega)⟩
    have cy:=HO.out.cell HZL.out hz0';have cf:=HO.out.froz HZL.out k;have HP:=zZ (HO.out.put HZL.out k y);rw[Fe HL.out hx.out rfl]at HP;have HE2:=zZ (HE.out.setCell (p:=⟨w.heap.size,k,none⟩) (zX _) (C D (y.n:Int)));go_wp2_with (go_at_call 116;refine (dD (y.n:Int) _ (by omega) (by omega)).mono ?_;rintro e w1 ⟨rfl,rfl⟩;rw[hel]);go_roundw
    case rel=>exact⟨k+1,by go_num,by omega,fun i x' h1 h2=>(by
     by_cases e:i=k
     ·subst e;rw[hx.out]at h2;injection h2 with h2;omega
     ·exact HV.out i x' (by omega) h2),HP.out,HE2.out⟩
    case measure=>simp[intOf];omega
   ·go_wp2_with (go_at_call 116;refine (dD x _ (by omega) (by omega)).mono ?_;rintro e w1 ⟨rfl,rfl⟩;rw[hel]);go_ret2
    refine HBAD.out _ ?_ HE.out;rcases yF (jf l) with h|h
    ·have:=(pE h).2.2 x (zU hx.out);unfold lX at hel;simp at hel;omega
    ·exact h
  ·obtain rfl:k=n:=by omega
   have HDB:Hid (jf l=true):=uM (by have:=HL.out;omega) (by have:=HL.out;omega) fun x hx=>by obtain⟨i,hi,rfl⟩:=List.getElem_of_mem hx;exact HV.out i _ (by rw[←HL.out];exact hi) (zW hi)
   obtain⟨W1,hW1⟩:=nm (wr:World);subst hW1;clear HBAD HV;go_wp2_with fail;go_loopw [5,7] (fun s5 s7 wr=>∃(j:Nat),s7=C D (j:Int)∧j≤6∧Hid (wr.ownsRow W1.heap.size 3 1 s5 j ((ng ((List.range j).map fun i=>k+i)).map (Value.int .i64))∧ab W1 wr)) (fun _ i _=>6-(intOf i).toNat)
   case atStart=>exact⟨0,rfl,by omega,yW _ _ _ _,zE _⟩
   case round =>
    obtain⟨j,rfl,hj,HK⟩:=hrel;have HO5:=zZ HK.out.1;have HE5:=zZ HK.out.2;clear HK;by_cases hj6:j<6
    ·go_wp2_with (at_builtin;refine al _ rfl (.tmp 45) (.tmp 50) 22 rfl W1.heap.size 3 i0 _ 8 underlying22 hi0 hz0 hz1 hz2 rfl u5 j _ rfl (HO5.out.alloc _) _ _ rfl (by simp;rfl) rfl (by omega) (by omega) (by have:=HE5.out.size;simp;omega) ?_;intro v4 w4 hown4 hg4;have HE4:=zZ (ab.grown (HE5.out.alloc _) hg4 (ar HO5.out));have HO4:=zZ hown4;clear hown4 hg4);go_roundw
     case rel =>
      refine⟨j+1,by go_num,by omega,?_,HE4.out⟩;have e:ng ((List.range (j+1)).map fun i=>k+i)=ng ((List.range j).map fun i=>k+i)++[(k:Int)+(j:Int)]:=by rw[yC,yN];unfold ng;rw[yN];simp
      rw[e,yN];exact HO4.out
     case measure=>simp[intOf];omega
    ·obtain rfl:j=6:=by omega
     have HOW:=zZ (HO.out.ext HE5.out);have HWI:Hid (ao wr.heap.size wr (E (some ⟨w.heap.size,0,none⟩) (k+6) (k+6)) (wI (lw l k k))):=ao.of_own' (p:=wr.heap.size) (e:=3) HOW.out (fun h=>by have:=(HOW.out.lt _ h).2;omega) (pH _) (by rw[dv,HZL.out];omega);have HPI:Hid (ao wr.heap.size wr u5 (ng ((List.range 6).map fun i=>k+i))):=ao.of_own' (p:=wr.heap.size) (e:=3) HO5.out (fun h=>by have:=(HO5.out.lt _ h).2;omega) (rF fun p hp=>by obtain⟨i,hi,rfl⟩:=zJ.1 hp;have:=zB.1 hi;omega) (by rw[jT];simp)
     have HF:=zZ (me (E (some ⟨w.heap.size,0,none⟩) (k+6) (k+6)) u5 (wI (lw l k k)) ((List.range 6).map fun i=>k+i) wr HWI.out HPI.out (by rw[dv,HZL.out];omega) (by rw[dv,HZL.out];omega)
      (List.Pairwise.map _ (fun a b h=>(by omega)) List.nodup_range)
      (fun p hp=>by
       obtain⟨i,hi,rfl⟩:=zJ.1 hp;have:=zB.1 hi;rw[dv,HZL.out];omega) (by simp) (fun i x _ hx=>by
       unfold wI at hx;rw[zL,yI]at hx;obtain⟨f,_,rfl⟩:=hx;have:=f.lt;omega))
     have hs5:w.heap.size≤wr.heap.size:=yL HE.out.size HE5.out.size;go_wp2_with (go_at_call 117;refine HF.out.mono ?_;rintro e w1 ⟨g,cp1,cw,rfl,hg1,hg2,hcl,hown,hx1,hoff,huq⟩);go_ret2
     have hcw:sl (ff l)=cw:=huq _ (Du HL.out) (Cn _);have e1:pp l=wI cw:=by unfold pp;rw[if_pos HDB.out,hcw]
     have e2:tx l=0:=by unfold tx;rw[if_pos HDB.out]
     rw[e1,e2];refine⟨some ⟨g,0,none⟩,_,cp1,rfl,by rw[dv,dv,hcl,dv],hg1,hg2,?_,(HE.out.trans HE5.out).trans hx1⟩;have:=kP hown hs5;unfold gD at hown;rw[hcl]at hown;exact kP hown hs5
theorem FQ:∀(n:Fin 32) (j:Fin 5),bits BinOp.and IntKind.i64 ((n.val:Int)/2 ^ j.val) 1=((n.val/2 ^ j.val%2:Nat):Int):=by decide +kernel
theorem FI{j:Nat}(hn:n<32)(hj:j<5):bits BinOp.and IntKind.i64 ((n:Int)/2 ^ j) 1=((n/2 ^ j%2:Nat):Int):=FQ ⟨n,hn⟩ ⟨j,hj⟩
theorem Ev:∀(n:Fin 32) (j:Fin 5),(mY n.val).take (5-j.val)=(mY n.val).take (5-(j.val+1))++[rG n.val j.val]:=by decide +kernel
theorem BM{j:Nat}(hn:n<32)(hj:j<5):(mY n).take (5-j)=(mY n).take (5-(j+1))++[rG n j]:=Ev ⟨n,hn⟩ ⟨j,hj⟩
theorem uj(x:F)(w:World) :
  Calls prog 90 #[C D (x.n:Int)] w fun e w'=>∃t,e=.returned (.string t)∧bl t=mY x.n∧w=w':=by
 have hx:=x.lt;obtain⟨n,hn⟩:=nm x.n;rw[←hn]at hx⊢;clear hn x;go_enter func90,ntmps90
 go_wp2_with fail;go_loop [3,4] (fun v i=>∃(k:Nat) (s:ByteArray),k≤5∧i=C D ((k:Int)-1)∧v=.string s∧Hid (bl s=(mY n).take (5-k))∧s.size≤5) (fun _ i=>((intOf i)+1).toNat)
 case atStart=>exact⟨5,_,by omega,rfl,rfl,rfl,by decide⟩
 case round =>
  obtain⟨k,s,hk,rfl,rfl,HS,hs⟩:=hrel;by_cases h0:0<k
  ·obtain⟨j,rfl⟩:∃j,k=j+1:=⟨k-1,by omega⟩
   have e1:(((j+1:Nat):Int)-1)=(j:Int):=by omega
   rw[e1];clear e1;have hj:j<64:=by omega
   have HA:=zZ (FI hx (show j<5 by omega));have HM:=zZ (BM hx (show j<5 by omega));rcases Nat.mod_two_eq_zero_or_one (n/2 ^ j) with hb|hb
   ·have e1:(bits BinOp.and IntKind.i64 ((n:Int)/2 ^ j) 1==1)=false:=by rw[HA.out,hb];rfl
    have HN:Hid (bl (s++⟨#[48]⟩)=(mY n).take (5-j)):=by
     show _=_
     rw[mc,HS.out,HM.out];unfold rG;rw[if_neg (by omega)];rfl
    have hz:s.size≤4:=by rw[←aU,HS.out,zF];omega
    clear hb HA HM;go_wp2_with fail;go_round
    case rel=>exact⟨j,_,by omega,rfl,rfl,HN.out,by rw[ByteArray.size_append,show (ByteArray.mk #[48]).size=1 from rfl];omega⟩
    case measure=>simp[intOf]
   ·have e1:(bits BinOp.and IntKind.i64 ((n:Int)/2 ^ j) 1==1)=true:=by rw[HA.out,hb];rfl
    have HN:Hid (bl (s++⟨#[49]⟩)=(mY n).take (5-j)):=by
     show _=_
     rw[mc,HS.out,HM.out];unfold rG;rw[if_pos hb];rfl
    have hz:s.size≤4:=by rw[←aU,HS.out,zF];omega
    clear hb HA HM;go_wp2_with fail;go_round
    case rel=>exact⟨j,_,by omega,rfl,rfl,HN.out,by rw[ByteArray.size_append,show (ByteArray.mk #[49]).size=1 from rfl];omega⟩
    case measure=>simp[intOf]
  ·obtain rfl:k=0:=by omega
   go_wp2_with fail;go_ret
   exact⟨s,rfl,by rw[HS.out];rfl,rfl⟩
def sX(p c g v:Int):List F:=sl (ff (j7 p c g v))
theorem uA(p c g v:Int):(sX p c g v).length=12:=by unfold sX;rw[tP,cE];rfl
theorem FV{c:Int}(h:ez p c g v=true):wI (ff (j7 p c g v))=j7 p c g v:=DI fun x hx=>by have:=uY h x hx;omega
theorem Dy{c:Int}(h:ez p c g v=true):pp (j7 p c g v)=wI (sX p c g v)∧tx (j7 p c g v)=0:=by have:=F8 (d:=ff (j7 p c g v)) (by rw[cE];unfold j7;simp) (by rw[cE];unfold j7;simp);rw[FV h]at this;exact this
def xz(p c g v:Int):List UInt8:=if ez p c g v then lq (sX p c g v) else []
theorem Bb{c:Int}(h:ez p c g v=true):xz p c g v=lq (sX p c g v):=by unfold xz;rw[h];rfl
theorem He{c:Int}(h:ez p c g v=false):xz p c g v=[]:=by unfold xz;rw[h];rfl
def Fn(p c g v:Int)(w:World)(e:Ending)(w':World):Prop:=∃t k,e=.returned (.tuple #[.string t,C D k])∧k=CH p c g v∧bl t=xz p c g v∧ab w w'
def sD(c:List F)(k:Nat):List UInt8:=List.replicate 7 49++yw (c.take k)
theorem Ck{c:List F}(h:k<c.length):sD c (k+1)=sD c k++mY (c.getD k 0).n:=by unfold sD;rw[ag (F.getD_eq h),CX,xV]
theorem E2{c:List F}(h:c.length=n):sD c n++List.replicate 7 48=lq c:=by unfold sD lq;rw[aD h]
theorem DD{c:List F}(h:k≤c.length):(sD c k).length=7+5*k:=by unfold sD;rw[zI,sV,zF,wG];omega
theorem qy(p c g v:Int)(w:World) :
  Calls prog 50 #[.agg #[C D p,C D c,C D g,C D v]] w (Fn p c g v w):=by
 rcases yF (ez p c g v) with hb|hb
 ·have S1:=zZ (Bs hb);have D1:=zZ (Bb hb);have E1:=zZ (Dy hb);have hL:=uA p c g v;generalize sX p c g v=cw at *
  go_enter func50,ntmps50
  go_wp2_with fail;refine (qF p c g v _).mono ?_;rintro e w1 ⟨A1,n1,c1,k1,rfl,hk1,hi1,hx1⟩;rw[S1.out.2]at hk1;rw[S1.out.1]at hi1;subst hk1;have HI:=zZ hi1;have HX:=zZ (ab.trans ((zE _).alloc _) hx1);clear hi1 hx1;go_wp2_with fail;refine (sO _ (j7 p c g v) _ HI.out).mono ?_;rintro e w2 ⟨A2,n2,c2,rfl,hn2,hc2,hc2',ho2,hx2⟩;rw[E1.out.2];rw[E1.out.1]at hn2 ho2;rw[dv,hL]at hn2;subst hn2;have HJ:Hid (ao w2.heap.size w2 (E A2 12 c2) (wI cw)):=Bn ho2 (pH _) (by rw[dv,hL];omega);replace HX:=zZ (HX.out.trans hx2);have HL:=zZ hL;clear ho2 hx2 HI E1 hL;go_wp2_with fail;go_loop [8,9] (fun s i=>∃(k:Nat) (t:ByteArray),k≤12∧i=C D k∧s=.string t∧Hid (bl t=sD cw k)∧t.size≤67) (fun _ i=>12-(intOf i).toNat)
  case atStart=>exact⟨0,_,by omega,rfl,rfl,rfl,by decide⟩
  case round =>
   obtain⟨k,t,hk,rfl,rfl,HT,ht⟩:=hrel;by_cases hlt:k<12
   ·obtain⟨b,off,rfl,hc⟩:=rO HJ.out hlt;have HN:=zZ (Ck (c:=cw) (k:=k) (by rw[HL.out];exact hlt));have HNL:=zZ (DD (c:=cw) (k:=k) (by rw[HL.out];omega));generalize cw.getD k 0=y at *
    go_wp2_with fail;refine (uj y _).mono ?_;rintro e w3 ⟨m,rfl,hm,rfl⟩;have hts:t.size=7+5*k:=by rw[←aU,HT.out,HNL.out]
    have hms:m.size=5:=by rw[←aU,hm,uN]
    have HM:Hid (bl (t++m)=sD cw (k+1)):=by show _=_;rw[mc,HT.out,hm,HN.out]
    have h1:t.size≤62:=by omega
    have h2:m.size≤5:=by omega
    clear hts hms hm HN HNL HT;go_wp2_with fail;go_round
    case rel=>exact⟨k+1,_,by omega,by go_num,rfl,HM.out,by rw[ByteArray.size_append];omega⟩
    case measure=>simp[intOf];omega
   ·obtain rfl:k=12:=by omega
    have HF:Hid (bl (t++⟨#[48,48,48,48,48,48,48]⟩)=lq cw):=by
     show _=_
     rw[mc,HT.out,←E2 HL.out];rfl
    clear HT;go_wp2_with fail;go_ret2
    exact⟨_,0,rfl,S1.out.2.symm,by rw[D1.out];exact HF.out,HX.out⟩
 ·have S1:=zZ (Dm hb);have D1:=zZ (He hb);go_enter func50,ntmps50
  go_wp2_with fail;refine (qF p c g v _).mono ?_;rintro e w1 ⟨A1,n1,c1,k1,rfl,hk1,hi1,hx1⟩;rw[S1.out.2]at hk1;subst hk1;have HX:=zZ (ab.trans ((zE _).alloc _) hx1);clear hi1 hx1;go_wp2_with fail;go_ret2
  exact⟨_,2,rfl,S1.out.2.symm,by rw[D1.out];rfl,HX.out⟩
def xy(s:List UInt8):List Int:=if bA s then dl s else []
def zv(s:List UInt8):Int:=if bA s then 0 else 7
theorem sC(h:bA s=true):xy s=dl s∧zv s=0:=by unfold xy zv;rw[h];exact⟨rfl,rfl⟩
theorem GL(h:bA s=false):xy s=[]∧zv s=7:=by unfold xy zv;rw[h];exact⟨rfl,rfl⟩
def FB(s:List UInt8)(w:World)(e:Ending)(w':World):Prop:=∃A n cc k,e=.returned (.tuple #[E A n cc,C D k])∧k=zv s∧ao w'.heap.size w' (E A n cc) (xy s)∧ab w w'
theorem G7{l:List UInt8}{m:Nat}{x:UInt8}(hm:m<5)(h:l[7+5*k+m]?=some x):(iM l k)[m]?=some x:=by unfold iM;rw[yB,if_pos hm,xB];exact h
theorem BJ(b:List UInt8)(x:UInt8):CP (b++[x])=2*CP b+(x.toNat-48):=by unfold CP;rw[List.foldl_append];rfl
structure jc (c:List UInt8) (m n:Nat):Prop where
 lt:n<2 ^ m
 eq:63 ∉ c.take m→n=CP (c.take m)
theorem jc.zero(c:List UInt8):jc c 0 0:=⟨by decide,fun _=>rfl⟩
theorem jc.step{m d:Nat}{x:UInt8}(h:jc c m n)(hx:c[m]?=some x)(hd:d<2)(he:x≠63→d=x.toNat-48):jc c (m+1) (2*n+d):=by
 refine⟨?_,fun hn=>?_⟩
 ·have:=h.lt;rw[Nat.pow_succ];omega
 ·rw[ag hx]at hn⊢;rw[zC]at hn;have h1:63 ∉ c.take m:=fun e=>hn (.inl e);have h2:x≠63:=fun e=>hn (.inr (by rw[e];simp));rw[BJ,←h.eq h1,←he h2]
theorem EI(h:c.count 63=0)(hb:jc c 5 n)(hl:c.length=5):mE c=(n:Int):=by have h1:63 ∉ c:=List.count_eq_zero.1 h;unfold mE;rw[if_neg h1,hb.eq (by rw[aD hl];exact h1),aD hl]
theorem FN(h:0<c.count 63):mE c=-1:=by unfold mE;rw[if_pos (List.count_pos_iff.1 h)]
theorem zj(s:List UInt8)(h:k<12):(dl s).take (k+1)=(dl s).take k++[mE (iM s k)]:=ag (DZ s h)
theorem CA(h:bA s=true):∀x∈dl s,aC x:=fun x hx=>by have:=(ei (pP h)).2.2 x hx;constructor<;>omega
theorem Eo{s:ByteArray}(h:bA (bl s)=true)(hq:q<s.size):(s[q].toNat:Int)=48∨(s[q].toNat:Int)=49∨(s[q].toNat:Int)=63:=by have:=(jJ.1 h).2 _ (zU (qK hq));rcases this with e|e|e<;>rw[e]<;>simp
theorem Cl(s:ByteArray)(w:World):Calls prog 122 #[.string s] w (FB (bl s) w):=by
 rcases yF (bA (bl s)) with hb|hb
 ·have hs:s.size=74:=by rw[←aU];exact (jJ.1 hb).1
  have h74:74≤s.size:=by omega
  have h75:s.size≤74:=by omega
  have HW:Bx (xy (bl s)=dl (bl s)∧zv (bl s)=0):=⟨sC hb⟩
  have HB:Bx (bA (bl s)=true):=⟨hb⟩
  have HL:Bx ((bl s).length=74):=⟨by rw[aU];exact hs⟩
  clear hs;obtain⟨i0,hi0,hz0,hz1,hz2⟩:=info_parts Tryz.infoI;have b0:bits BinOp.and IntKind.i64 0 1=0:=by decide
  have b1:bits BinOp.and IntKind.i64 1 1=1:=by decide
  have b15:bits BinOp.and IntKind.i64 15 1=1:=by decide
  go_enter func122,ntmps122
  go_wp2_with fail;refine (dh _ _).mono ?_;rintro r w1 ⟨rfl,rfl⟩;rw[hb];go_wp2_with fail;clear hb;go_loopw [4,5,6,7] (fun v i _ _ wr=>∃k q:Nat,k≤12∧q≤7+5*k∧7+5*k≤q∧i=C D q∧Bx (wr.ownsRow w.heap.size 3 1 v k (((dl (bl s)).take k).map (Value.int .i64)))∧Bx (ab w wr)) (fun _ i _ _ _=>67-(intOf i).toNat)
  case atStart=>exact⟨0,7,by omega,by omega,by omega,rfl,⟨yW _ _ _ _⟩,⟨zE _⟩⟩
  case round =>
   obtain⟨k,i,hk,hi1,hi2,rfl,HO,HE⟩:=hrel;by_cases hlt:k<12
   ·have hd:decide ((i:Int)<67)=true:=by simp;omega
    have HT:Bx ((dl (bl s)).take (k+1)=(dl (bl s)).take k++[mE (iM (bl s) k)]):=⟨zj _ hlt⟩
    have HCL:Bx ((iM (bl s) k).length=5):=⟨te HL.out hlt⟩
    have HEX:Bx (bl (s.extract i (i+5))=iM (bl s) k):=⟨by rw[EC];unfold iM;rw[show i+5-i=5 by omega,show 7+5*k=i by omega]⟩
    go_wp2_with fail;obtain⟨wo,hwo⟩:=nm (wr:World);subst hwo;go_loop [6,7] (fun u j=>∃m n q:Nat,m≤5∧q≤i+m∧i+m≤q∧n<32∧u=C D n∧j=C D q∧Bx (jc (iM (bl s) k) m n)) (fun _ j=>i+5-(intOf j).toNat)
    case atStart=>exact⟨0,0,i,by omega,by omega,by omega,by omega,rfl,rfl,⟨jc.zero _⟩⟩
    case round =>
     obtain⟨m,n,q,hm,hq1,hq2,hn,rfl,rfl,HB5⟩:=hrel;by_cases hm5:m<5
     ·have hq:q<s.size:=by omega
      have hnm:n<16:=by have:=HB5.out.lt;have h4:(2:Nat) ^ m≤2 ^ 4:=Nat.pow_le_pow_right (by omega) (by omega);omega
      have HC:Bx ((iM (bl s) k)[m]?=some s[q]):=⟨G7 hm5 (by rw[show 7+5*k+m=q by omega];exact qK hq)⟩
      rcases Eo HB.out hq with a1|a1|a1
      ·have HS:Bx (jc (iM (bl s) k) (m+1) (2*n+0)):=⟨HB5.out.step HC.out (by omega) (fun _=>by omega)⟩
       clear HB5 HC;go_wp2_with fail;go_round
       case rel=>exact⟨m+1,2*n+0,q+1,by omega,by omega,by omega,by omega,by go_num,by go_num,HS⟩
       case measure=>simp[intOf];omega
      ·have HS:Bx (jc (iM (bl s) k) (m+1) (2*n+1)):=⟨HB5.out.step HC.out (by omega) (fun _=>by omega)⟩
       clear HB5 HC;go_wp2_with fail;go_round
       case rel=>exact⟨m+1,2*n+1,q+1,by omega,by omega,by omega,by omega,by go_num,by go_num,HS⟩
       case measure=>simp[intOf];omega
      ·have HS:Bx (jc (iM (bl s) k) (m+1) (2*n+1)):=⟨HB5.out.step HC.out (by omega) (fun hne=>absurd (UInt8.toNat_inj.1 (show s[q].toNat=(63:UInt8).toNat by simp;omega)) hne)⟩
       clear HB5 HC;go_wp2_with fail;go_round
       case rel=>exact⟨m+1,2*n+1,q+1,by omega,by omega,by omega,by omega,by go_num,by go_num,HS⟩
       case measure=>simp[intOf];omega
     ·obtain rfl:m=5:=by omega
      obtain⟨c,hc⟩:∃c,(bl (s.extract i (i+5))).count 63=c:=⟨_,rfl⟩
      have HC63:Bx ((bl (s.extract i (i+5))).count 63=c):=⟨hc⟩
      have HCC:Bx ((iM (bl s) k).count 63=c):=⟨by rw[←HEX.out];exact hc⟩
      have HSZ:Bx ((s.extract i (i+5)).size≤1000000):=⟨by rw[←aU,HEX.out,HCL.out];omega⟩
      clear hc;have e5:((i:Int)+5).toNat=i+5:=by omega
      go_wp2_with fail;refine (Ix _ _ c HC63.out HSZ.out).mono ?_;rintro r w2 ⟨rfl,rfl⟩;by_cases hc0:0<c
      ·have HV:Bx (mE (iM (bl s) k)=-1):=⟨FN (by rw[HCC.out];exact hc0)⟩
       have HT2:Bx (((dl (bl s)).take k).map (Value.int .i64)++[C D (-1)]=((dl (bl s)).take (k+1)).map (Value.int .i64)):=⟨by rw[HT.out,HV.out,yN];rfl⟩
       clear HT HC63 HCC HSZ HEX HCL;go_wp2_with (at_builtin;refine al _ rfl (.tmp 38) (.tmp 40) 22 rfl w.heap.size 3 i0 _ 8 underlying22 hi0 hz0 hz1 hz2 rfl _ _ _ rfl (HO.out.alloc _) _ _ rfl (ak (heap_alloc_new _ _) rfl) rfl (by omega) (by omega) (by have:=HE.out.size;simp;omega) ?_;intro v' w' hown hg);have HO2:Bx (w'.ownsRow w.heap.size 3 1 v' (k+1) (((dl (bl s)).take (k+1)).map (Value.int .i64))):=⟨by have h2:World.ownsRow _ _ _ _ _ _ (_++[Value.int .i64 (-1)]):=hown;rw[HT2.out]at h2;exact h2⟩
       have HE2:Bx (ab w w'):=⟨ab.grown (HE.out.alloc _) hg (fun q hq=>ar HO.out q hq)⟩
       clear hown hg HO HE HT2;go_wp2_with fail;go_roundw
       case rel=>exact⟨k+1,i+5,by omega,by omega,by omega,by go_num,HO2,HE2⟩
       case measure=>simp[intOf];omega
      ·obtain rfl:c=0:=by omega
       have HV:Bx (mE (iM (bl s) k)=(n:Int)):=⟨EI HCC.out HB5.out HCL.out⟩
       have HT2:Bx (((dl (bl s)).take k).map (Value.int .i64)++[C D (n:Int)]=((dl (bl s)).take (k+1)).map (Value.int .i64)):=⟨by rw[HT.out,HV.out,yN];rfl⟩
       clear HT HC63 HCC HSZ HEX HCL;go_wp2_with (at_builtin;refine al _ rfl (.tmp 38) (.tmp 40) 22 rfl w.heap.size 3 i0 _ 8 underlying22 hi0 hz0 hz1 hz2 rfl _ _ _ rfl (HO.out.alloc _) _ _ rfl (ak (heap_alloc_new _ _) rfl) rfl (by omega) (by omega) (by have:=HE.out.size;simp;omega) ?_;intro v' w' hown hg);have HO2:Bx (w'.ownsRow w.heap.size 3 1 v' (k+1) (((dl (bl s)).take (k+1)).map (Value.int .i64))):=⟨by have h2:World.ownsRow _ _ _ _ _ _ (_++[Value.int .i64 (n:Int)]):=hown;rw[HT2.out]at h2;exact h2⟩
       have HE2:Bx (ab w w'):=⟨ab.grown (HE.out.alloc _) hg (fun q hq=>ar HO.out q hq)⟩
       clear hown hg HO HE HT2;go_wp2_with fail;go_roundw
       case rel=>exact⟨k+1,i+5,by omega,by omega,by omega,by go_num,HO2,HE2⟩
       case measure=>simp[intOf];omega
   ·obtain rfl:k=12:=by omega
    have HF:Bx ((dl (bl s)).take 12=dl (bl s)):=⟨aD (iu _)⟩
    rw[HF.out]at HO;obtain⟨A,cc,rfl,-⟩:=mD HO.out;have hI:Bx (ao wr.heap.size wr (E A 12 cc) (dl (bl s))):=⟨Bn HO.out (CA HB.out) (by rw[iu];omega)⟩
    clear HO;go_wp2_with fail;go_ret2
    exact⟨_,_,_,_,rfl,HW.out.2.symm,by rw[HW.out.1];exact hI.out,HE.out⟩
 ·have HW:Bx (xy (bl s)=[]∧zv (bl s)=7):=⟨GL hb⟩
  go_enter func122,ntmps122
  go_wp2_with fail;refine (dh _ _).mono ?_;rintro r w1 ⟨rfl,rfl⟩;rw[hb];go_wp2_with fail;go_ret2
  exact⟨_,_,_,_,rfl,HW.out.2.symm,by rw[HW.out.1];exact ao.nil _ _,zE _⟩
def EO(l:List Int)(d:List F)(er k:Int):Prop :=
 (dt (-1) l=false→d=[]∧er=0∧k=2)∧(dt (-1) l=true→(∃(cw:List F) (n:Nat),vM l cw n∧d=cw.take (l.length-6)∧er=n∧k=0)∨((∀cw n,¬vM l cw n)∧d=[]∧er=0∧k=25))
theorem DV{d d':List F}{er er' k k':Int}(h:EO l d er k)(h':EO l d' er' k'):d=d'∧er=er'∧k=k':=by
 rcases yF (dt (-1) l) with hb|hb
 ·have h15:=(ei hb).2.1;rcases h.2 hb with ⟨c,n,h1,h2,h3,h4⟩|⟨h1,h2,h3,h4⟩<;>rcases h'.2 hb with ⟨c',n',g1,g2,g3,g4⟩|⟨g1,g2,g3,g4⟩
  ·obtain⟨rfl,rfl⟩:=Cu (by omega) h1 g1;exact⟨by rw[h2,g2],by rw[h3,g3],by rw[h4,g4]⟩
  ·exact absurd h1 (g1 _ _)
  ·exact absurd g1 (h1 _ _)
  ·exact⟨by rw[h2,g2],by rw[h3,g3],by rw[h4,g4]⟩
 ·obtain⟨h2,h3,h4⟩:=h.1 hb;obtain⟨g2,g3,g4⟩:=h'.1 hb;exact⟨by rw[h2,g2],by rw[h3,g3],by rw[h4,g4]⟩
def dz(d:List F)(i:Nat):Int:=((d.getD i 0).n:Int)
theorem i9(d:List F)(i:Nat):0≤dz d i∧dz d i<32:=by have:=(d.getD i 0).lt;unfold dz;omega
def jt(d:List F):Int:=1024*dz d 1+32*dz d 2+dz d 3
def kn(s:List UInt8)(p c g v n k:Int):Prop :=
 (jh s≠0→p=0∧c=0∧g=0∧v=0∧n=0∧k=jh s) ∧
 (jh s=0→∃d er kk,EO (dl (j9 s)) d er kk∧(kk≠0→p=0∧c=0∧g=0∧v=0∧n=0∧k=25) ∧
  (kk=0→(9999<jt d→p=0∧c=0∧g=0∧v=0∧n=0∧k=2)∧(jt d≤9999→p=dz d 0∧c=jt d∧g=dz d 4∧v=dz d 5∧n=er∧k=0)))
theorem qH{c n k p' c' g' v' n' k':Int}(h:kn s p c g v n k)(h':kn s p' c' g' v' n' k'):p=p'∧c=c'∧g=g'∧v=v'∧n=n'∧k=k':=by
 by_cases hu:jh s=0
 ·obtain⟨d,er,kk,h1,h2,h3⟩:=h.2 hu;obtain⟨d',er',kk',h1',h2',h3'⟩:=h'.2 hu;obtain⟨rfl,rfl,rfl⟩:=DV h1 h1';by_cases hk:kk=0
  ·by_cases hc:jt d≤9999
   ·have:=(h3 hk).2 hc;have:=(h3' hk).2 hc;omega
   ·have:=(h3 hk).1 (by omega);have:=(h3' hk).1 (by omega);omega
  ·have:=h2 hk;have:=h2' hk;omega
 ·have:=h.1 hu;have:=h'.1 hu;omega
def F7(s:List UInt8)(w:World)(e:Ending)(w':World):Prop :=
 ∃p c g v n k,e=.returned (.tuple #[.agg #[C D p,C D c,C D g,C D v],C D n,C D k])∧kn s p c g v n k∧aC p∧aC c∧aC g∧aC v∧aC n∧aC k∧ab w w'
theorem In{d:List F}{er k:Int}(hw:dt (-1) l=true)(h:EO l d er k):(k=0∧d.length=l.length-6∧0≤er∧er≤6)∨(k=25∧d=[]∧er=0):=by
 rcases h.2 hw with ⟨cw,n,h1,h2,h3,h4⟩|⟨h1,h2,h3,h4⟩
 ·have hn:n≤6:=by have:=h1.near;omega
  exact .inl ⟨h4,by rw[h2,zF,h1.len];omega,by omega,by omega⟩
 ·exact .inr ⟨h4,h2,h3⟩
theorem G3{p:Nat}{w:World}{A:Option Addr}{c:Nat}{d:List F}(h:ao p w (E A n c) (wI d))(hn:d.length=6):∃b off,A=some ⟨b,off,none⟩∧n=6∧∀k,k<6→w.cell? ⟨b,off+k,none⟩=some (C D (dz d k)):=by
 have h6:n=6:=by have:=h.len;rw[dv]at this;omega
 obtain⟨b,off,rfl,_⟩:=rO h (k:=0) (by omega);refine⟨b,off,rfl,h6,fun k hk=>?_⟩;obtain⟨b',off',h1,h2⟩:=rO h (k:=k) (by omega);injection h1 with h1;injection h1 with hb ho;subst hb;subst ho;exact h2
theorem BK(s:ByteArray)(w:World):Calls prog 97 #[.string s] w (F7 (bl s) w):=by
 have HE0:Bx (ab w (w.alloc (.cells #[C D 0,C D 0,C D 0,C D 0] 73))):=⟨(zE _).alloc _⟩
 go_enter func97,ntmps97
 go_wp2_with fail;refine (rH s _).mono ?_;rintro e w1 ⟨t,k,rfl,hk,ht,hx1⟩;have hbk:=hx1.blk (heap_alloc_new w _);have HX:Bx (ab w w1):=⟨HE0.out.trans hx1⟩
 have HBT:Bx (bl t=j9 (bl s)):=⟨ht⟩
 have HK:Bx (k=jh (bl s)):=⟨hk⟩
 have HBK:Bx (w1.heap[w.heap.size]?=some (.cells #[C D 0,C D 0,C D 0,C D 0] 73 (0,0))):=⟨hbk⟩
 clear hx1 ht hk hbk HE0;by_cases hu:k=0
 ·subst hu;have HST:Bx (bA (bl t)=true):=⟨by rw[HBT.out];exact Db HK.out.symm⟩
  go_wp2_with fail;refine (Cl t _).mono ?_;rintro e w2 ⟨A2,n2,c2,k2,rfl,hk2,hi2,hx2⟩;rw[(sC HST.out).2]at hk2;rw[(sC HST.out).1,HBT.out]at hi2;subst hk2;have HI:Bx (ao w2.heap.size w2 (E A2 n2 c2) (dl (j9 (bl s)))):=⟨hi2⟩
  replace HX:Bx (ab w w2):=⟨HX.out.trans hx2⟩
  replace HBK:Bx (w2.heap[w.heap.size]?=some (.cells #[C D 0,C D 0,C D 0,C D 0] 73 (0,0))):=⟨hx2.blk HBK.out⟩
  clear hi2 hx2;go_wp2_with fail;refine (ug _ _ _ HI.out).mono ?_;rintro e w3 ⟨A3,n3,c3,d,er,kk,rfl,hi3,hx3,f3,t3⟩;have HDF:Bx (EO (dl (j9 (bl s))) d er kk):=⟨⟨f3,t3⟩⟩
  have HI3:Bx (ao w3.heap.size w3 (E A3 n3 c3) (wI d)):=⟨hi3⟩
  replace HX:Bx (ab w w3):=⟨HX.out.trans hx3⟩
  replace HBK:Bx (w3.heap[w.heap.size]?=some (.cells #[C D 0,C D 0,C D 0,C D 0] 73 (0,0))):=⟨hx3.blk HBK.out⟩
  have HWW:Bx (dt (-1) (dl (j9 (bl s)))=true):=⟨pP (by rw[←HBT.out];exact HST.out)⟩
  clear hi3 hx3 f3 t3 HI;have z0:=ak HBK.out (i:=0) rfl;have z1:=ak HBK.out (i:=1) rfl;have z2:=ak HBK.out (i:=2) rfl;have z3:=ak HBK.out (i:=3) rfl;have f0:=ax HBK.out 0;have f1:=ax HBK.out 1;have f2:=ax HBK.out 2;have f3:=ax HBK.out 3;rcases In HWW.out HDF.out with ⟨rfl,hl,her0,her6⟩|⟨rfl,hd,he⟩
  ·rw[iu]at hl;obtain⟨b,off,rfl,rfl,hcd⟩:=G3 HI3.out hl;have c0:=hcd 0 (by omega);have c1:=hcd 1 (by omega);have c2:=hcd 2 (by omega);have c3:=hcd 3 (by omega);have c4:=hcd 4 (by omega);have c5:=hcd 5 (by omega);rw[yP]at c0;clear hcd hl;obtain⟨d0l,d0h⟩:=i9 d 0;obtain⟨d1l,d1h⟩:=i9 d 1;obtain⟨d2l,d2h⟩:=i9 d 2;obtain⟨d3l,d3h⟩:=i9 d 3;obtain⟨d4l,d4h⟩:=i9 d 4;obtain⟨d5l,d5h⟩:=i9 d 5;have HCZ:Bx (1024*dz d 1+32*dz d 2+dz d 3=jt d):=⟨rfl⟩
   have HRF:Bx (∀p c g v n k,(9999<jt d→p=0∧c=0∧g=0∧v=0∧n=0∧k=2)→(jt d≤9999→p=dz d 0∧c=jt d∧g=dz d 4∧v=dz d 5∧n=er∧k=0)→kn (bl s) p c g v n k):=⟨fun p c g v n k g1 g2=>⟨fun h=>absurd HK.out.symm h,fun _=>⟨d,er,0,HDF.out,fun h=>absurd rfl h,fun _=>⟨g1,g2⟩⟩⟩⟩
   generalize dz d 0=x0 at *
   generalize dz d 1=x1 at *
   generalize dz d 2=x2 at *
   generalize dz d 3=x3 at *
   generalize dz d 4=x4 at *
   generalize dz d 5=x5 at *
   generalize jt d=cz at *
   have e1:IntKind.i64.wrap (1024*x1)=1024*x1:=yQ _ (by omega);have e2:IntKind.i64.wrap (32*x2)=32*x2:=yQ _ (by omega);have e3:IntKind.i64.wrap (1024*x1+32*x2)=1024*x1+32*x2:=yQ _ (by omega);have e4:IntKind.i64.wrap (1024*x1+32*x2+x3)=cz:=by rw[yQ _ (by omega)];exact HCZ.out
   have hz1:cz≤32767:=by have:=HCZ.out;omega
   have hz0:0≤cz:=by have:=HCZ.out;omega
   clear HI3 HDF HWW HBT HK HST;have hS:w3.drew.cell? ⟨b,off,none⟩=some (C D x0)∧w3.drew.cell? ⟨b,off+1,none⟩=some (C D x1)∧w3.drew.cell? ⟨b,off+2,none⟩=some (C D x2)∧w3.drew.cell? ⟨b,off+3,none⟩=some (C D x3)∧w3.drew.cell? ⟨b,off+4,none⟩=some (C D x4)∧w3.drew.cell? ⟨b,off+5,none⟩=some (C D x5):=⟨c0,c1,c2,c3,c4,c5⟩
   replace hS:=zZ hS;clear c0 c1 c2 c3 c4 c5 z0 z1 z2 z3 f0 f1 f2 f3;go_upto_region 8 with (fail)
   refine zR 24 (fun w'=>w'.cell? ⟨b,off,none⟩=some (C D x0)∧w'.cell? ⟨b,off+1,none⟩=some (C D x1)∧w'.cell? ⟨b,off+2,none⟩=some (C D x2)∧w'.cell? ⟨b,off+3,none⟩=some (C D x3)∧w'.cell? ⟨b,off+4,none⟩=some (C D x4)∧w'.cell? ⟨b,off+5,none⟩=some (C D x5)) ?_;refine zS 23 [(0,37),(1,38),(2,39),(3,40),(4,41),(5,42),(6,43),(7,44),(8,45),(9,46),(10,47),(11,48),(12,49),(13,50),(14,51),(15,52),(16,53),(17,54),(18,55),(19,56),(20,57),(21,58),(22,59)] hS.out ?_;iterate 23 (apply zT;exact⟨rfl,rfl⟩;(·intro _ _;go_simp;try with_reducible rfl);simp only[kA];exact rfl)
   refine zN (zO 23 (fun K hK=>?_));go_simp;refine hK.out _ _ (fun _=>⟨((zE w3).alloc _).drew.cell hS.out.1,((zE w3).alloc _).drew.cell hS.out.2.1,((zE w3).alloc _).drew.cell hS.out.2.2.1,((zE w3).alloc _).drew.cell hS.out.2.2.2.1,((zE w3).alloc _).drew.cell hS.out.2.2.2.2.1,((zE w3).alloc _).drew.cell hS.out.2.2.2.2.2⟩) ?_;clear hK K;try simp only[kA]
   clear hS;refine zO 24 (fun K hK=>?_);go_simp;refine hK.out _ _ (fun h=>absurd rfl h) ?_;clear hK K;refine zD ?_;clear e1 e2 e3 e4 HCZ;generalize hw4:(w3.alloc (.cells #[C D x0,C D cz,C D x4,C D x5] 73)).drew=w4;have hg:=heap_alloc_new w3 (.cells #[C D x0,C D cz,C D x4,C D x5] 73);have hx4:ab w3 w4:=by rw[←hw4];exact ((zE _).alloc _).drew
   have hg4:w4.heap[w3.heap.size]?=some (.cells #[C D x0,C D cz,C D x4,C D x5] 73 (0,0)):=by rw[←hw4];exact hg
   replace HX:Bx (ab w w4):=⟨HX.out.trans hx4⟩
   replace HBK:Bx (w4.heap[w.heap.size]?=some (.cells #[C D 0,C D 0,C D 0,C D 0] 73 (0,0))):=⟨hx4.blk HBK.out⟩
   have y0:=ak hg4 (i:=0) rfl;have y1:=ak hg4 (i:=1) rfl;have y2:=ak hg4 (i:=2) rfl;have y3:=ak hg4 (i:=3) rfl;have HG4:Bx (w4.heap[w3.heap.size]?=some (.cells #[C D x0,C D cz,C D x4,C D x5] 73 (0,0))):=⟨hg4⟩
   clear hw4 hg hx4 hg4;go_wp2_with fail;refine (iU x0 cz x4 x5 _).mono ?_;rintro e w5 ⟨rfl,hx5⟩;replace HX:Bx (ab w w5):=⟨HX.out.trans hx5⟩
   replace HBK:Bx (w5.heap[w.heap.size]?=some (.cells #[C D 0,C D 0,C D 0,C D 0] 73 (0,0))):=⟨hx5.blk HBK.out⟩
   replace y0:=hx5.cell y0;replace y1:=hx5.cell y1;replace y2:=hx5.cell y2;replace y3:=hx5.cell y3;clear hx5 HG4;have z0:=ak HBK.out (i:=0) rfl;have z1:=ak HBK.out (i:=1) rfl;have z2:=ak HBK.out (i:=2) rfl;have z3:=ak HBK.out (i:=3) rfl;have f0:=ax HBK.out 0;have f1:=ax HBK.out 1;have f2:=ax HBK.out 2;have f3:=ax HBK.out 3;by_cases hcz:9999<cz
   ·have hb:ez x0 cz x4 x5=false:=by unfold ez;exact decide_eq_false (by omega)
    rw[hb];go_wp2_with fail;refine bodyPost_ret (v:=.tuple #[.agg #[C D 0,C D 0,C D 0,C D 0],C D 0,C D 2]) (by simp[results,results97,go_sem,z0,z1,z2,z3]) rfl ⟨0,0,0,0,0,2,rfl,HRF.out _ _ _ _ _ _ (fun _=>⟨rfl,rfl,rfl,rfl,rfl,rfl⟩) (fun h=>by omega),by decide,by decide,by decide,by decide,by decide,by decide,?_⟩;exact (((HX.out.setCell (zX _) _).setCell (zX _) _).setCell (zX _) _).setCell (zX _) _
   ·have hb:ez x0 cz x4 x5=true:=kN.2 (by omega);rw[hb];go_wp2_with fail;refine bodyPost_ret (v:=.tuple #[.agg #[C D x0,C D cz,C D x4,C D x5],C D er,C D 0]) (by simp[results,results97,go_sem,z0,z1,z2,z3]) rfl ⟨x0,cz,x4,x5,er,0,rfl,HRF.out _ _ _ _ _ _ (fun h=>by omega) (fun _=>⟨rfl,rfl,rfl,rfl,rfl,rfl⟩),⟨by omega,by omega⟩,⟨by omega,by omega⟩,⟨by omega,by omega⟩,⟨by omega,by omega⟩,⟨by omega,by omega⟩,by decide,?_⟩;exact (((HX.out.setCell (zX _) _).setCell (zX _) _).setCell (zX _) _).setCell (zX _) _
  ·subst hd;subst he;have HRF:Bx (kn (bl s) 0 0 0 0 0 25):=⟨⟨fun h=>absurd HK.out.symm h,fun _=>⟨[],0,25,HDF.out,fun _=>⟨rfl,rfl,rfl,rfl,rfl,rfl⟩,fun h=>by omega⟩⟩⟩
   clear HI3 HDF HWW HBT HK HST;go_wp2_with fail;refine bodyPost_ret (v:=.tuple #[.agg #[C D 0,C D 0,C D 0,C D 0],C D 0,C D 25]) (by simp[results,results97,go_sem,z0,z1,z2,z3]) rfl ⟨0,0,0,0,0,25,rfl,HRF.out,by decide,by decide,by decide,by decide,by decide,by decide,?_⟩;exact (((HX.out.setCell (zX _) _).setCell (zX _) _).setCell (zX _) _).setCell (zX _) _
 ·have e1:(k != 0)=true:=bne_iff_ne.2 hu;have HRF:Bx (kn (bl s) 0 0 0 0 0 k):=⟨⟨fun _=>⟨rfl,rfl,rfl,rfl,rfl,HK.out⟩,fun h=>absurd (HK.out.trans h) hu⟩⟩
  have hk:aC k:=by have:=HK.out;unfold jh at this;constructor<;>(split at this<;>(try split at this)<;>(try split at this)<;>omega)
  have HKI:Bx (aC k):=⟨hk⟩
  have z0:=ak HBK.out (i:=0) rfl;have z1:=ak HBK.out (i:=1) rfl;have z2:=ak HBK.out (i:=2) rfl;have z3:=ak HBK.out (i:=3) rfl;have f0:=ax HBK.out 0;have f1:=ax HBK.out 1;have f2:=ax HBK.out 2;have f3:=ax HBK.out 3;clear HBT HK hk;go_wp2_with fail;refine bodyPost_ret (v:=.tuple #[.agg #[C D 0,C D 0,C D 0,C D 0],C D 0,C D k]) (by simp[results,results97,go_sem,z0,z1,z2,z3]) rfl ⟨0,0,0,0,0,k,rfl,HRF.out,by decide,by decide,by decide,by decide,by decide,HKI.out,?_⟩;exact (((HX.out.setCell (zX _) _).setCell (zX _) _).setCell (zX _) _).setCell (zX _) _
end Go.Proofs.YtjgfgdcaocbfhaaGreat

