import Derived.Deep.OwnRows
import Derived.Test.YtpaidaphacoblaaGreatDoorK13
set_option linter.all false
set_option maxRecDepth 100000
set_option maxHeartbeats 0
namespace Go.Proofs.YtpaidaphacoblaaGreatDoor
open Go.Value renaming int→B,slice→E
open Go.IntKind renaming i64→C
open Go.RowKit
variable {base k wd:Nat}
def fW(ps:List Nat):List Int:=ps.map fun (p:Nat)=>(p:Int)
theorem fd(ps:List Nat):(fW ps).length=ps.length:=by simp[fW]
theorem oz{ps:List Nat}{x:Int}(h:(fW ps)[k]?=some x):∃p:Nat,ps[k]?=some p/\x=(p:Int):=by unfold fW at h;rw[zP,yO]at h;obtain⟨c,h1,h2⟩:=h;exact⟨c,h1,h2.symm⟩
def fi(M:Nat->Nat->F)(wd j k:Nat):List (List Int):=(List.range 6).map fun r=>if r<j then F.rowI M wd r else if r=j then (F.rowI M wd r).take k else []
theorem il(M:Nat->Nat->F)(wd j k:Nat):(fi M wd j k).length=6:=by simp[fi]
theorem lB{M:Nat->Nat->F}{j r:Nat}(h:r<6):(fi M wd j k)[r]?=some (if r<j then F.rowI M wd r else if r=j then (F.rowI M wd r).take k else []):=by unfold fi;rw[zP,wJ h];rfl
theorem rD{M:Nat->Nat->F}{j:Nat}{x:Int}(hj:j<6)(hx:(F.rowI M wd j)[k]?=some x):(fi M wd j k).set j ((F.rowI M wd j).take k++[x])=fi M wd j (k+1):=by
 apply xW;intro r;rcases zU r 6 with hr|hr
 ·rw[yD,lB hr,lB hr,il];by_cases e:j=r
  ·subst e;rw[if_pos rfl,if_pos hr,if_neg (by omega),if_pos rfl,ax hx]
  ·rw[if_neg e,if_neg (show ¬r=j from fun h=>e h.symm),if_neg (show ¬r=j from fun h=>e h.symm)]
 ·rw[zC (by rw[yF,il];exact hr),zC (by rw[il];exact hr)]
theorem AW(M:Nat->Nat->F)(wd j:Nat):fi M wd j wd=fi M wd (j+1) 0:=by
 unfold fi;refine vK fun r _=>?_;by_cases e:r<j
 ·rw[if_pos e,if_pos (by omega)]
 ·rw[if_neg e];by_cases e2:r=j
  ·rw[if_pos e2,if_pos (by omega),xV (by rw[F.rowI_len];exact zX _)]
  ·rw[if_neg e2,if_neg (by omega)];split<;>simp
theorem CD(M:Nat->Nat->F)(wd:Nat):fi M wd 6 0=F.matI M wd:=by unfold fi F.matI;exact vK fun r hr=>if_pos (yX.1 hr)
theorem AI(M:Nat->Nat->F)(wd:Nat):fi M wd 0 0=List.replicate 6 []:=by
 unfold fi;apply xW;intro r;rcases zU r 6 with hr|hr
 ·rw[zP,wJ hr,List.getElem?_replicate,if_pos hr];simp
 ·rw[zC (by simpa using hr),zC (by simpa using hr)]
theorem lT.matW{g eS eI cap:Nat}{w:World}{M:Nat->Nat->F}(h:lT base eS eI w (E (some ⟨g,0,none⟩) 6 cap) (F.matI M wd))(hne:eS≠eI)(hw:0<wd):dQ base g eS eI w M wd:=by
 obtain⟨us,a,b,c,d⟩:=h;rw[F.matI_len]at a b;rcases b.2 with ⟨e,_⟩|⟨g',cap',cur,e,hg,hh,hnc,hcm,hcs,htk⟩
 ·cases e
 injection e with e1 e2 e3;injection e1 with e1;injection e1 with e1;subst e1;rw[wH]at htk;have hrow:∀r,r<6->∃br cr,us[r]?=some (E (some ⟨br,0,none⟩) wd cr)/\base<=br/\wd<=cr/\cr<=9223372036854775807/\∃cu:Array Value,w.heap[br]?=some (.cells cu eI (0,0))/\∀i,i<wd->cu[i]?=some (B C ((M r i).n:Int)):=by
  intro r hr;have hu:us[r]?=some us[r]:=zV (by omega);have ho:=c r _ _ hu (F.matI_at hr);rw[F.rowI_len]at ho;rcases ho.2 with ⟨e,h0⟩|⟨br,cr,cu,e,hb,hhb,h1,h2,h3,h4⟩
  ·omega
  ·refine⟨br,cr,by rw[hu,e],hb,h1,h2,cu,hhb,fun i hi=>?_⟩;rw[wH]at h4;have:(cu.toList.take wd)[i]?=some (B C ((M r i).n:Int)):=by
    rw[h4,zP,F.rowI_at hi];rfl
   rw[yB,if_pos hi]at this;simpa using this
 let br:Nat->Nat:=fun r=>if h:r<6 then (hrow r h).choose else 0
 have hbr:∀r (h:r<6),br r=(hrow r h).choose:=fun r h=>dif_pos h;let cr:Nat->Nat:=fun r=>if h:r<6 then (hrow r h).choose_spec.choose else 0
 have hcr:∀r (h:r<6),cr r=(hrow r h).choose_spec.choose:=fun r h=>dif_pos h;have spec:∀r,r<6->us[r]?=some (E (some ⟨br r,0,none⟩) wd (cr r))/\base<=br r/\wd<=cr r/\cr r<=9223372036854775807/\∃cu:Array Value,w.heap[br r]?=some (.cells cu eI (0,0))/\∀i,i<wd->cu[i]?=some (B C ((M r i).n:Int)):=fun r h=>by rw[hbr r h,hcr r h];exact (hrow r h).choose_spec.choose_spec
 refine⟨br,cr,cur,⟨hh,fun r hr=>?_,fun r hr=>(spec r hr).2.2.2.2,fun r s hr hs he=>?_,fun r hr he=>?_,fun r hr=>(spec r hr).2.1,hg,fun r hr=>⟨(spec r hr).2.2.1,(spec r hr).2.2.2.1⟩⟩⟩
 ·have:=(spec r hr).1;rw[<-htk,yB,if_pos hr]at this;simpa using this
 ·rcases Nat.decEq r s with hne'|heq
  ·exact absurd (by rw[he];rfl) (d r s _ _ (br r) hne' (spec r hr).1 (spec s hs).1 rfl)
  ·exact heq
 ·obtain⟨cu,h1,_⟩:=(spec r hr).2.2.2.2;rw[he,hh]at h1;injection h1 with h1;injection h1 with _ h2;exact hne h2
theorem FD{eS eI:Nat}(w:World)(hb:base<=w.heap.size):lT base eS eI (w.alloc (.cells #[E none 0 0,E none 0 0,E none 0 0,E none 0 0,E none 0 0,E none 0 0] eS)) (E (some ⟨w.heap.size,0,none⟩) 6 6) (List.replicate 6 []):=by
 refine⟨List.replicate 6 (E none 0 0),by simp,⟨by simp,.inr ⟨w.heap.size,6,_,rfl,hb,heap_alloc_new w _,by simp,by unfold maxLen;omega,by simp,by simp[List.replicate]⟩⟩,fun j u l hu hl=>?_,fun i j u u' k _ hu _ hk=>?_⟩
 ·obtain rfl:=(List.mem_replicate.1 (zW hu)).2;obtain rfl:=(List.mem_replicate.1 (zW hl)).2;exact yZ _ _ _ _
 ·obtain rfl:=(List.mem_replicate.1 (zW hu)).2;simp[Value.ownBlock]at hk
open _root_.Go.Proofs.Tryz
theorem lf(n:Nat)(hn:n<=1000000)(w:World):(Instr.makeSlice 22 (B C (n:Int)) (B C (n:Int))).run prog w=.ok (E (some ⟨w.heap.size,0,none⟩) n n) (w.alloc (.cells (madeCells #[B C 0] n) 3)) :=
 run_make_row' 22 3 (B C 0) 8 underlying22 Tryz.infoI rfl .i64 .i64 n (by omega) (by omega) w
theorem EL(w:World):(Instr.makeSlice 59 (B C 6) (B C 6)).run prog w=.ok (E (some ⟨w.heap.size,0,none⟩) 6 6) (w.alloc (.cells #[E none 0 0,E none 0 0,E none 0 0,E none 0 0,E none 0 0,E none 0 0] 22)):=by have h:=run_make_row' (P:=prog) 59 22 (E none 0 0) 24 underlying59 Tryz.infoS rfl .i64 .i64 6 (by omega) (by omega) w;rw[show madeCells #[Value.slice none 0 0] 6=#[E none 0 0,E none 0 0,E none 0 0,E none 0 0,E none 0 0,E none 0 0] from by kernel_rfl]at h;exact h
theorem lA(n:Nat):(madeCells #[Value.int .i64 0] n)=((wI (List.replicate n 0)).map (Value.int .i64)).toArray:=by
 apply Array.ext
 ·simp[madeCells,wI]
 ·intro i h1 h2;simp[madeCells,wI,Nat.mod_one,F.n_zero]
theorem Ep(w:World)(n:Nat)(hb:base<=w.heap.size)(hn:n<=1000000):eT base (w.alloc (.cells (madeCells #[B C 0] n) 3)) (E (some ⟨w.heap.size,0,none⟩) n n) (List.replicate n 0):=by rw[lA];unfold eT;refine⟨by simp[wI],.inr ⟨w.heap.size,n,_,by simp,hb,heap_alloc_new w _,by simp,by unfold maxLen;omega,by simp[wI],?_⟩⟩;simp[wI]
def JK(w:World)(wd:List F)(ps:List Nat)(e:Ending)(w':World):Prop :=
 ∃(A:Option Addr) (m cp:Nat) (b:Bool),e=.returned (.tuple #[E A m cp,.bool b])/\ab w w' /\
  (b=true->∃xs:List F,xs.length=ps.length/\eT w.heap.size w' (E A m cp) xs/\F.Code (F.addAt wd ps xs)) /\
  (b=false->∀c,F.Off wd c ps->¬F.Code c)
theorem FE{q:Nat}(v:Value)(wd:List F)(ps:List Nat)(n:Nat)(w:World)(hT:cK w)(hI:ak q w v (fW ps))(hn:wd.length=n)(hn31:n<=31)(hd:ps.Nodup)(hlt:∀p∈ps,p<n)(h6:ps.length<=6) :
  Calls prog 147 #[.agg #[B C ((aw wd 0).n:Int),B C ((aw wd 1).n:Int),B C ((aw wd 2).n:Int),B C ((aw wd 3).n:Int),B C ((aw wd 4).n:Int),B C ((aw wd 5).n:Int)],B C (n:Int),v] w (JK w wd ps):=by
 have h0:=hI.re (q:=w.heap.size) (zX _);obtain⟨A,u,c,rfl,hnc,hc,hnn,HL⟩:=hI.open_;have HU:Hid (ps.length=u):=by have:=HL.out;rw[fd]at this;exact this
 have hu6:u<=6:=by have:=HU.out;omega
 have HI:=zZ h0;have HT:=zZ hT;have HN:=zZ hn;have HD:=zZ hd;have HLT:=zZ hlt;clear hI hT h0 hn hd hlt h6 HL;obtain⟨i0,hi0,hz0,hz1,hz2⟩:=info_parts Tryz.infoI;have hb2:2<=w.heap.size:=HT.out.lt;go_enter func147,ntmps147
 have hmk:=EL;go_upto_region 2 with (fail)
 clear hmk;have HM0:=zZ (FD (base:=w.heap.size) (eI:=3) (eS:=22) (w.alloc (.cells #[B C ((aw wd 0).n:Int),B C ((aw wd 1).n:Int),B C ((aw wd 2).n:Int),B C ((aw wd 3).n:Int),B C ((aw wd 4).n:Int),B C ((aw wd 5).n:Int)] 214)) (by rw[vW];omega));have HS0:=zZ (((zE _).alloc (.cells #[E none 0 0,E none 0 0,E none 0 0,E none 0 0,E none 0 0,E none 0 0] 22)).blk (heap_alloc_new w (.cells #[B C ((aw wd 0).n:Int),B C ((aw wd 1).n:Int),B C ((aw wd 2).n:Int),B C ((aw wd 3).n:Int),B C ((aw wd 4).n:Int),B C ((aw wd 5).n:Int)] 214)));have HE0:=zZ (((zE w).alloc (.cells #[B C ((aw wd 0).n:Int),B C ((aw wd 1).n:Int),B C ((aw wd 2).n:Int),B C ((aw wd 3).n:Int),B C ((aw wd 4).n:Int),B C ((aw wd 5).n:Int)] 214)).alloc (.cells #[E none 0 0,E none 0 0,E none 0 0,E none 0 0,E none 0 0,E none 0 0] 22));rw[vW]at HM0;generalize (w.alloc (.cells #[B C ((aw wd 0).n:Int),B C ((aw wd 1).n:Int),B C ((aw wd 2).n:Int),B C ((aw wd 3).n:Int),B C ((aw wd 4).n:Int),B C ((aw wd 5).n:Int)] 214)).alloc (.cells #[E none 0 0,E none 0 0,E none 0 0,E none 0 0,E none 0 0,E none 0 0] 22)=W at *
 replace HS0:Hid (W.heap[w.heap.size]?=some (.cells (eP (aw wd) 6) 214 (0,0))):=HS0.out;have hb0:w.heap.size<W.heap.size:=al HS0.out;go_wp2_with fail;go_loopw [17] (fun s17 wr=>∃(j:Nat),s17=B C j/\j<=6/\Hid (lT w.heap.size 22 3 wr (E (some ⟨w.heap.size+1,0,none⟩) 6 6) (fi (F.sysM wd ps) (u+1) j 0)/\ab w wr/\wr.heap[w.heap.size]?=some (.cells (eP (aw wd) 6) 214 (0,0)))) (fun i _=>6-(intOf i).toNat)
 case atStart=>exact⟨0,rfl,by omega,by rw[AI];exact HM0.out,HE0.out,HS0.out⟩
 case round =>
  clear HM0 HE0 HS0;obtain⟨j,rfl,hj,HJ⟩:=hrel;by_cases hj6:j<6
  ·have hd:decide ((j:Int)<6)=true:=by simp;omega
   obtain⟨wo,rfl⟩:=nm (wr:World);go_wp2_with fail;go_loopw [22] (fun s22 wr=>∃(k:Nat),s22=B C k/\k<=u/\Hid (lT w.heap.size 22 3 wr (E (some ⟨w.heap.size+1,0,none⟩) 6 6) (fi (F.sysM wd ps) (u+1) j k)/\ab w wr/\wr.heap[w.heap.size]?=some (.cells (eP (aw wd) 6) 214 (0,0)))) (fun i _=>u-(intOf i).toNat)
   case atStart=>exact⟨0,rfl,by omega,HJ.out⟩
   case round =>
    clear HJ;obtain⟨k,rfl,hk,HK⟩:=hrel;by_cases hku:k<u
    ·have HIr:=zZ (HI.out.ext HK.out.2.1);have HTr:=zZ (HT.out.ext HK.out.2.1);obtain⟨b,o,z,rfl,-⟩:=HIr.out.at_ hku;obtain⟨z,hcz,HZ,-⟩:=HIr.out.cell_ hku;obtain⟨pl,hpl,rfl⟩:=oz HZ.out;have hpn:pl<n:=HLT.out pl (zW hpl);obtain⟨m,hm⟩:=nm ((j+1)*(n-1-pl):Nat);have hmb:m<=1000:=by
      have h1:(j+1)*(n-1-pl)<=6*31:=Nat.mul_le_mul (by omega) (by omega);omega
     have HRI:Hid ((F.rowI (F.sysM wd ps) (u+1) j)[k]?=some ((F.gp m).n:Int)):=by
      show _=_
      rw[F.rowI_at (by omega)];have e:ps.getD k 0=pl:=by rw[xU,hpl];rfl
      unfold F.sysM;rw[if_pos (by rw[HU.out];exact hku),HN.out,e,<-hm]
     have hwm:Hid (IntKind.i64.wrap (IntKind.i64.wrap ((j:Int)+1)*IntKind.i64.wrap (IntKind.i64.wrap ((n:Int)-1)-(pl:Int)))=(m:Int)):=by
      show _=_
      rw[yN ((j:Int)+1) (by omega),yN ((n:Int)-1) (by omega),yN ((n:Int)-1-(pl:Int)) (by omega)];have hm':((j:Int)+1)*((n:Int)-1-(pl:Int))=(m:Int):=by rw[hm,Int.natCast_mul,show (((j+1:Nat)):Int)=(j:Int)+1 by omega,show (((n-1-pl:Nat)):Int)=(n:Int)-1-(pl:Int) by omega]
      rw[hm'];exact yN _ (by omega)
     clear hm hpl HZ;obtain⟨Au,mu,cu,lu,hlu,hmu,hcu,hfu,-,-,hou,-,hstep⟩:=HK.out.1.row (il _ _ _ _) (by decide) hj6;rw[lB hj6,if_neg (by omega),if_pos rfl]at hlu;injection hlu with hlu;have hmk:mu=k:=by rw[<-hmu,<-hlu,yW,F.rowI_len];omega
     have HSTEP:=zZ hstep;have HOU:=zZ hou;have HLU:=zZ hlu;subst hmk;clear hstep hou hlu hmu;have HFS:=zZ HK.out.2.2;have HEK:=zZ HK.out.2.1;have hS:wr.drew.cell? ⟨w.heap.size+1,j,none⟩=some (E Au mu cu):=hcu;replace hS:=zZ hS;have e1:(0:Int)<=(j:Int):=xT _;have e2:(j:Int)<6:=by omega
     go_upto_region 8 with (fail)
     refine zR 17 (fun w'=>w'.cell? ⟨w.heap.size+1,j,none⟩=some (E Au mu cu)) ?_;refine zS 13 [(0,26),(1,27),(2,28),(3,29),(4,30),(5,31),(6,32),(7,33),(8,34),(9,35),(10,36),(11,37),(12,38)] hS.out ?_;iterate 13 refine zT ?_
     refine zN (zO 13 (fun K hK=>?_));go_simp;rw[hwm.out];refine (vf m _ (HTr.out.ext (zE _).drew) (by omega)).mono ?_;rintro e x1 ⟨rfl,hx1⟩;have HX1:Hid (ab wr x1):=by rw[hx1];exact (zE wr).drew
     clear hx1;replace hcu:=HX1.out.cell hcu;replace hS:=zZ hcu;refine hK.out _ _ (fun _=>hS.out) ?_;clear hK K;try simp only[kA]
     refine zO 14 (fun K hK=>?_);go_simp;have E1:=zZ ((zE x1).alloc (.cells #[B C ((F.gp m).n:Int)] 3));refine hK.out _ _ (fun _=>E1.out.cell hcu) ?_;clear hK K;try simp only[kA]
     refine zO 15 (fun K hK=>?_);refine step_append_lies _ (by rfl) _ _ _ (by rfl) w.heap.size 3 i0 _ 1 8 underlying22 hi0 hz0 hz1 hz2 rfl (by omega) (E Au mu cu) mu (lu.map (Value.int .i64)) (by rfl) ((ao HOU.out HX1.out).alloc _) ⟨x1.heap.size,0,none⟩ 1 1 [B C ((F.gp m).n:Int)] (by rfl) (by rfl) (World.news_of_block (cs:=#[B C ((F.gp m).n:Int)]) (t:=3) (fr:=(0,0)) (heap_alloc_new x1 _)) (by simp[Value.oneCell']) (by omega) (by unfold maxLen;omega) (by omega) (by have:=HX1.out.size;have:=HEK.out.size;simp;omega) (x1.heap.size+1) (by simp) ?_;intro gg cap w3 hown3 hgrow hat hlt3;have HH:=zZ (HSTEP.out 0 _ _ gg cap ((F.gp m).n:Int) (HX1.out.trans E1.out).xt (by omega) hgrow hown3 (hat.imp id (fun e=>by have:=HX1.out.size;omega)));have HE3:=zZ (ab.grown ((HEK.out.trans HX1.out).trans E1.out) hgrow (aq HOU.out));have HF3:Hid (w3.heap[w.heap.size]?=some (.cells (eP (aw wd) 6) 214 (0,0))):=by have h1:=(HX1.out.trans E1.out).blk HFS.out;exact (hgrow.block _ (al h1) (fun e=>aG HOU.out HFS.out (by decide) e.symm)).trans h1
     clear hown3 hgrow hat hlt3;change K (Act.put _ (some 41) _) w3;have hc3:=HH.out.1;have hf3:=HH.out.2.1;refine hK.out _ _ (fun _=>hc3) ?_;clear hK K;try simp only[kA]
     refine zS 1 [(16,42)] hc3 ?_;refine zT ?_;refine zN (zO 17 (fun K hK=>?_));go_simp;refine hK.out _ _ (fun h=>absurd rfl h) ?_;clear hK K;refine zD ?_;have HM4:=HH.out.2.2;rw[<-HLU.out,rD hj6 HRI.out]at HM4;replace HM4:=zZ HM4;have HE4:=zZ (HE3.out.setCell (p:=⟨w.heap.size+1,j,none⟩) (by simp) (E (some ⟨gg,0,none⟩) (mu+1) cap));have HF4:Hid ((w3.setCell ⟨w.heap.size+1,j,none⟩ (E (some ⟨gg,0,none⟩) (mu+1) cap)).heap[w.heap.size]?=some (.cells (eP (aw wd) 6) 214 (0,0))):=by
      show _=_
      rw[yP _ _ _ _ (by simp)];exact HF3.out
     clear hc3 hf3 HH;go_wp2_with fail;go_roundw
     case rel=>exact⟨mu+1,by go_num,by omega,HM4.out,HE4.out,HF4.out⟩
     case measure=>simp[intOf];omega
    ·have hke:k=u:=by omega
     rw[hke]at HK;clear hke;have HRI:Hid ((F.rowI (F.sysM wd ps) (u+1) j)[u]?=some ((aw wd j).n:Int)):=by
      show _=_
      rw[F.rowI_at (by omega)];unfold F.sysM;rw[if_neg (by rw[HU.out];omega)];rfl
     obtain⟨Au,mu,cu,lu,hlu,hmu,hcu,hfu,-,-,hou,-,hstep⟩:=HK.out.1.row (il _ _ _ _) (by decide) hj6;rw[lB hj6,if_neg (by omega),if_pos rfl]at hlu;injection hlu with hlu;have hmk:mu=u:=by rw[<-hmu,<-hlu,yW,F.rowI_len];omega
     have HSTEP:=zZ hstep;have HOU:=zZ hou;have HLU:=zZ hlu;have HMU:=zZ hmk;have hmu6:mu<=6:=by omega
     clear hstep hou hlu hmu hmk;have HFS:=zZ HK.out.2.2;have HEK:=zZ HK.out.2.1;have hsc:wr.cell? ⟨w.heap.size,j,none⟩=some (B C ((aw wd j).n:Int)):=ac HFS.out (jR hj6);have hS:wr.drew.cell? ⟨w.heap.size+1,j,none⟩=some (E Au mu cu)/\wr.drew.cell? ⟨w.heap.size,j,none⟩=some (B C ((aw wd j).n:Int)):=⟨hcu,hsc⟩
     replace hS:=zZ hS;have e1:(0:Int)<=(j:Int):=xT _;have e2:(j:Int)<6:=by omega
     go_upto_region 10 with (fail)
     refine zR 12 (fun w'=>w'.cell? ⟨w.heap.size+1,j,none⟩=some (E Au mu cu)/\w'.cell? ⟨w.heap.size,j,none⟩=some (B C ((aw wd j).n:Int))) ?_;refine zS 9 [(0,44),(1,45),(2,46),(3,47),(4,48),(5,49),(6,50),(7,51),(8,52)] hS.out ?_;iterate 9 refine zT ?_
     refine zN (zO 9 (fun K hK=>?_));go_simp;have E1:=zZ ((zE wr).alloc (.cells #[B C ((aw wd j).n:Int)] 3));have hce:((wr.alloc (.cells #[B C ((aw wd j).n:Int)] 3)).drew).cell? ⟨w.heap.size+1,j,none⟩=some (E Au mu cu)/\((wr.alloc (.cells #[B C ((aw wd j).n:Int)] 3)).drew).cell? ⟨w.heap.size,j,none⟩=some (B C ((aw wd j).n:Int)):=⟨E1.out.cell hcu,E1.out.cell hsc⟩
     refine hK.out _ _ (fun _=>hce) ?_;clear hK K;try simp only[kA]
     refine zO 10 (fun K hK=>?_);refine step_append_lies _ (by rfl) _ _ _ (by rfl) w.heap.size 3 i0 _ 1 8 underlying22 hi0 hz0 hz1 hz2 rfl (by omega) (E Au mu cu) mu (lu.map (Value.int .i64)) (by rfl) ((HOU.out.alloc _).drew) ⟨wr.heap.size,0,none⟩ 1 1 [B C ((aw wd j).n:Int)] (by rfl) (by rfl) (World.news_of_block (cs:=#[B C ((aw wd j).n:Int)]) (t:=3) (fr:=(0,0)) (heap_alloc_new wr _)) (by simp[Value.oneCell']) (by omega) (by unfold maxLen;omega) (by omega) (by have:=HEK.out.size;simp;omega) (wr.heap.size+1) (by simp) ?_;intro gg cap w3 hown3 hgrow hat hlt3;have HH:=zZ (HSTEP.out 0 _ _ gg cap ((aw wd j).n:Int) (E1.out.drew).xt (by omega) hgrow hown3 (hat.imp id (fun e=>by omega)));have HE3:=zZ (ab.grown (HEK.out.trans E1.out.drew) hgrow (aq HOU.out));have HF3:Hid (w3.heap[w.heap.size]?=some (.cells (eP (aw wd) 6) 214 (0,0))):=by have h1:=(E1.out.drew).blk HFS.out;exact (hgrow.block _ (al h1) (fun e=>aG HOU.out HFS.out (by decide) e.symm)).trans h1
     have hs3:w3.cell? ⟨w.heap.size,j,none⟩=some (B C ((aw wd j).n:Int)):=ac HF3.out (jR hj6);clear hown3 hgrow hat hlt3 hce;change K (Act.put _ (some 54) _) w3;have hc3:=HH.out.1;have hf3:=HH.out.2.1;refine hK.out _ _ (fun _=>⟨hc3,hs3⟩) ?_;clear hK K;try simp only[kA]
     have hc33:=zZ (yJ hc3 hs3);refine zS 1 [(11,55)] hc33.out ?_;refine zT ?_;refine zN (zO 12 (fun K hK=>?_));go_simp;refine hK.out _ _ (fun h=>absurd rfl h) ?_;clear hK K;refine zD ?_;have HM4:=HH.out.2.2;rw[<-HLU.out,rD hj6 HRI.out,AW]at HM4;replace HM4:=zZ HM4;have HE4:=zZ (HE3.out.setCell (p:=⟨w.heap.size+1,j,none⟩) (by simp) (E (some ⟨gg,0,none⟩) (mu+1) cap));have HF4:Hid ((w3.setCell ⟨w.heap.size+1,j,none⟩ (E (some ⟨gg,0,none⟩) (mu+1) cap)).heap[w.heap.size]?=some (.cells (eP (aw wd) 6) 214 (0,0))):=by
      show _=_
      rw[yP _ _ _ _ (by simp)];exact HF3.out
     clear hc3 hf3 HH hs3;go_wp2_with fail;go_roundw
     case rel=>exact⟨j+1,by go_num,by omega,HM4.out,HE4.out,HF4.out⟩
     case measure=>simp[intOf];omega
  ·obtain rfl:j=6:=by omega
   have HMW:Hid (dQ w.heap.size (w.heap.size+1) 22 3 wr (F.sysM wd ps) (u+1)):=by have h:=HJ.out.1;rw[CD]at h;exact h.matW (by decide) (by omega)
   have HEJ:=zZ HJ.out.2.1;clear HJ;have HSE:Hid (∀M:Nat->Nat->F,F.Unit6 M u->(∀X,F.Sol M X (u+1)↔F.Sol (F.sysM wd ps) X (u+1))->((∀r,u<=r->r<6->M r u=0)->F.Code (F.addAt wd ps ((List.range u).map fun c=>M c u)))/\(∀c,F.Off wd c ps->F.Code c->(∀r,u<=r->r<6->M r u=0)/\c=F.addAt wd ps ((List.range u).map fun c=>M c u))):=fun M h1 h2=>by have h:=@F.sys_end wd ps M (by rw[HN.out];exact hn31) HD.out (by rw[HN.out];exact HLT.out) (by rw[HU.out];exact hu6);rw[HU.out]at h;exact h h1 h2
   have hmkI:=lf u (by omega);have HIND:Hid (∀X,F.Sol (F.sysM wd ps) X (u+1)->X u=0->∀c,c<u->X c=0):=by have h:=@F.sys_ind wd ps (by rw[HN.out];exact hn31) HD.out (by rw[HN.out];exact HLT.out) (by rw[HU.out];exact hu6);rw[HU.out]at h;exact h
   go_wp2_with (go_at_call 173;refine (FJ w.heap.size (w.heap.size+1) 6 u (F.sysM wd ps) _ (HT.out.ext HEJ.out) HMW.out hu6 ⟨by omega,by omega⟩ hb2 HIND.out).mono ?_;rintro e x1 ⟨M',rfl,hm1,hm2,hm3,hm4⟩;replace hm1:=zZ hm1;replace hm2:=zZ hm2;replace hm3:=zZ hm3;replace hm4:=zZ hm4)
   ·rename_i hrb
    go_ret2
    refine⟨_,_,_,false,rfl,HEJ.out.below_trans (zX _) hm4.out,(fun h=>by cases h),fun _ c ho hc=>?_⟩;have:=(lq M' u).2 (((HSE.out M' hm2.out hm3.out).2 c ho hc).1);rw[this]at hrb;cases hrb
   ·have hrb:(!ra M' u)=false:=by assumption
    have HRB:Hid (ra M' u=true):=by
     show _=_
     cases h:ra M' u with
     |true=>rfl
     |false=>rw[h]at hrb;cases hrb
    have HO0:=zZ (Ep x1 u (base:=x1.heap.size) (zX _) (by omega));have HX0:=zZ ((zE x1).alloc (.cells (madeCells #[B C 0] u) 3));have HE1:=zZ (HEJ.out.below_trans (zX _) hm4.out);have hws:w.heap.size<=x1.heap.size:=HE1.out.size;clear hmkI hrb;generalize x1.alloc (.cells (madeCells #[B C 0] u) 3)=X2 at *
    go_loopw [67] (fun s67 wr'=>∃(k:Nat),s67=B C k/\k<=u/\Hid (eT x1.heap.size wr' (E (some ⟨x1.heap.size,0,none⟩) u u) ((List.range k).map (fun c=>M' c u)++List.replicate (u-k) 0)/\XT x1.heap.size X2 wr')) (fun i _=>u-(intOf i).toNat)
    case atStart=>exact⟨0,rfl,by omega,by simpa using HO0.out,XT.refl _ _⟩
    case round =>
     obtain⟨k,rfl,hk,HK⟩:=hrel;clear HO0;have hlen:((List.range k).map (fun c=>M' c u)++List.replicate (u-k) (0:F)).length=u:=by simp;omega
     by_cases hku:k<u
     ·have HMr:Hid (dQ w.heap.size (w.heap.size+1) 22 3 wr M' (u+1)):=hm1.out.keep fun i _ hl=>(HK.out.2.block i (zB hl HX0.out.size) (fun e=>by injection e;omega)).trans (HX0.out.block i hl);obtain⟨b2,cu2,a0,a1,a2,-,-,a3,-,-⟩:=HMr.out.at_ (r:=k) (by omega);have a6:=a3 u (by omega);have hfz:=HK.out.1.froz hlen k;obtain⟨y,hy⟩:∃y,((List.range k).map (fun c=>M' c u)++List.replicate (u-k) (0:F))[k]?=some y:=⟨_,zV (by omega)⟩
      have hcy:=HK.out.1.cell hlen hy;have HO4:=zZ (HK.out.1.put hlen k (M' k u));have hset:((List.range k).map (fun c=>M' c u)++List.replicate (u-k) (0:F)).set k (M' k u)=(List.range (k+1)).map (fun c=>M' c u)++List.replicate (u-(k+1)) 0:=by
       rw[vO _ _ (by simp),xP,yG,zJ,wQ,vH];obtain⟨m,hm⟩:∃m,u-k=m+1:=⟨u-k-1,by omega⟩
       rw[hm,vD,M5,show u-(k+1)=m by omega];simp
      rw[hset]at HO4;have HX4:=zZ (HK.out.2.setCell (a:=⟨x1.heap.size,k,none⟩) rfl (B C ((M' k u).n:Int)));clear a3 hy hset hlen HMr;go_wp2_with fail;go_roundw
      case rel=>exact⟨k+1,by go_num,by omega,HO4.out,HX4.out⟩
      case measure=>simp[intOf];omega
     ·obtain rfl:k=u:=by omega
      go_wp2_with fail;go_ret2
      refine⟨_,_,_,true,rfl,?_,fun _=>⟨(List.range k).map (fun c=>M' c k),by simp[HU.out],?_,(HSE.out M' hm2.out hm3.out).1 ((lq M' k).1 HRB.out)⟩,(fun h=>by cases h)⟩
      ·exact HK.out.2.fresh (HE1.out.trans HX0.out) hws
      ·have h:=HK.out.1;rw[vH,List.replicate_zero,xN]at h;exact gM h hws
theorem EG{α:Type}{x:α}{S l:List α}:∀(next:Nat),(x::S).Sublist (l.drop next)->∃i,next<=i/\l[i]?=some x/\S.Sublist (l.drop (i+1)):=by
 intro next;obtain⟨m,hm⟩:=nm (l.length-next);induction m generalizing next with
 |zero =>
  intro h;rw[uF (by omega)]at h;cases h
 |succ m ih =>
  intro h;rw[vZ (by omega)]at h;cases h with
  |cons _ h =>
   obtain⟨i,h1,h2,h3⟩:=ih (next+1) (by omega) h;exact⟨i,by omega,h2,h3⟩
  |cons_cons _ h=>exact⟨next,zX _,zV (by omega),h⟩
structure kv (gP gV:Nat) (w:World) (vp:Value) (w':World) (vp':Value):Prop where
 os:w'.os=w.os
 tape:w'.tape=w.tape
 output:w'.output=w.output
 size:w.heap.size<=w'.heap.size
 block:∀k,k<w.heap.size->k≠gP->k≠gV->vp.ownBlock≠some k->w'.heap[k]?=w.heap[k]?
 own:∀k,vp'.ownBlock=some k->vp.ownBlock=some k\/w.heap.size<=k
section
variable {gP gV:Nat} {w w1 w2:World} {vp v1 v2:Value}
theorem kv.refl(gP gV:Nat)(w:World)(vp:Value):kv gP gV w vp w vp:=⟨rfl,rfl,rfl,zX _,fun _ _ _ _ _=>rfl,fun _ h=>.inl h⟩
theorem kv.trans(h:kv gP gV w vp w1 v1)(k:kv gP gV w1 v1 w2 v2):kv gP gV w vp w2 v2 :=
 ⟨k.os.trans h.os,k.tape.trans h.tape,k.output.trans h.output,yR h.size k.size,
  fun i hi h1 h2 h3=>(k.block i (zB hi h.size) h1 h2 (fun e=>by
   rcases h.own i e with h4|h4
   ·exact h3 h4
   ·omega)).trans (h.block i hi h1 h2 h3),
  fun i hi=>by
   rcases k.own i hi with h4|h4
   ·exact h.own i h4
   ·exact .inr (yR h.size h4)⟩
theorem kv.of_ext(e:ab w w1):kv gP gV w vp w1 vp:=⟨e.os,e.tape,e.output,e.size,fun i hi _ _ _=>e.block i hi,fun _ h=>.inl h⟩
theorem kv.grown{row:Option Nat}(hg:w.grownBy w1 row)(hr:∀k,row=some k->vp.ownBlock=some k)(ho:∀k,v1.ownBlock=some k->vp.ownBlock=some k\/w.heap.size<=k):kv gP gV w vp w1 v1 :=
 ⟨hg.os,hg.tape,hg.output,hg.size,fun i hi _ _ h=>hg.block i hi (fun e=>h (hr i e.symm)),ho⟩
theorem kv.setP(w:World)(vp:Value)(i:Nat)(u:Value):kv gP gV w vp (w.setCell ⟨gP,i,none⟩ u) vp :=
 ⟨rfl,rfl,rfl,by simp[World.setCell],fun k _ h1 _ _=>yP _ _ _ _ (by simpa using h1),fun _ h=>.inl h⟩
theorem kv.setV(w:World)(vp:Value)(i:Nat)(u:Value):kv gP gV w vp (w.setCell ⟨gV,i,none⟩ u) vp :=
 ⟨rfl,rfl,rfl,by simp[World.setCell],fun k _ _ h2 _=>yP _ _ _ _ (by simpa using h2),fun _ h=>.inl h⟩
theorem kv.keepIs{p n c:Nat}{A:Option Addr}{l:List Int}(h:kv gP gV w vp w1 v1)(hi:ak p w (E A n c) l)(ha:∀ad,A=some ad->ad.block≠gP/\ad.block≠gV/\vp.ownBlock≠some ad.block/\ad.block<w.heap.size):ak p w1 (E A n c) l:=by obtain⟨A',c',hv,h1,h2,h3,h5,h4⟩:=hi;injection hv with e1 e2 e3;subst e1;subst e3;refine⟨A,c,by rw[e2],h1,h2,h3,h5,fun k x hx=>?_⟩;obtain⟨b,off,hA,hb,hc⟩:=h4 k x hx;obtain⟨g1,g2,g3,g4⟩:=ha _ hA;exact⟨b,off,hA,hb,(wG (w:=w) (h.block b g4 g1 g2 g3)).trans hc⟩
end
structure Dw (fl:List F) (wh:List Nat) (n gS gW gP gV gH gF:Nat) (Aw:Option Addr) (cw:Nat) (Ah:Option Addr) (nh ch base:Nat) (w:World) (ps:List Nat) (Ap:Option Addr) (np cp:Nat) (vv:Value):Prop where
 s:w.heap[gS]?=some (.cells (eP (aw fl) 6) 214 (0,0))
 wd:w.heap[gW]?=some (.cells #[E Aw n cw] 22 (0,0))
 p:w.heap[gP]?=some (.cells #[E Ap np cp] 22 (0,0))
 v:w.heap[gV]?=some (.cells #[vv] 22 (0,0))
 h:w.heap[gH]?=some (.cells #[E Ah nh ch] 22 (0,0))
 f:w.heap[gF]?=some (.cells #[.func (.func 146) #[] #[.pointer (some ⟨gS,0,none⟩),.pointer (some ⟨gW,0,none⟩),.pointer (some ⟨gP,0,none⟩),.pointer (some ⟨gV,0,none⟩),.pointer (some ⟨gH,0,none⟩),.pointer (some ⟨gF,0,none⟩)]] 202 (0,0))
 hi:ak gP w (E Ah nh ch) (fW wh)
 ha:∀ad,Ah=some ad->ad.block≠gP/\ad.block≠gV/\(Value.slice Ap np cp).ownBlock≠some ad.block/\ad.block<w.heap.size
 own:w.ownsRow base 3 1 (E Ap np cp) np ((fW ps).map (Value.int .i64))
 len:ps.length=np
 tabs:cK w
 b2:2<=base
 bP:base<=gP
 bV:base<=gV
 sP:gS≠gP
 sV:gS≠gV
 wP:gW≠gP
 wV:gW≠gV
 hP:gH≠gP
 hV:gH≠gV
 fP:gF≠gP
 fV:gF≠gV
 pV:gP≠gV
theorem jD{w:World}{e size n:Nat}{v:Value}{xs:List Value}(h:w.ownsRow base e size v n xs):∃A c,v=E A n c/\n<=c/\c<=9223372036854775807:=by
 rcases h.2 with ⟨rfl,rfl⟩|⟨g,cap,cur,rfl,_,_,h1,h2,_⟩
 ·exact⟨none,0,rfl,zX _,by omega⟩
 ·exact⟨_,_,rfl,h1,h2⟩
section
variable {fl:List F} {wh:List Nat} {n gS gW gP gV gH gF:Nat} {Aw:Option Addr} {cw:Nat} {Ah:Option Addr} {nh ch base:Nat} {w w':World} {ps ps':List Nat} {Ap Ap':Option Addr} {np cp np' cp':Nat} {vv vv':Value}
theorem Dw.step(d:Dw fl wh n gS gW gP gV gH gF Aw cw Ah nh ch base w ps Ap np cp vv)(e:kv gP gV w (E Ap np cp) w' (E Ap' np' cp'))(hp:w'.heap[gP]?=some (.cells #[E Ap' np' cp'] 22 (0,0)))(hv:w'.heap[gV]?=some (.cells #[vv'] 22 (0,0)))(ho:w'.ownsRow base 3 1 (E Ap' np' cp') np' ((fW ps').map (Value.int .i64)))(hl:ps'.length=np') :
  Dw fl wh n gS gW gP gV gH gF Aw cw Ah nh ch base w' ps' Ap' np' cp' vv':=by
 have hb:∀k,k<base->k<w.heap.size->w'.heap[k]?=w.heap[k]?:=fun k hk hlt=>e.block k hlt (by have:=d.bP;omega) (by have:=d.bV;omega) (fun h=>by have:=aq d.own k h;omega);refine⟨(e.block _ (al d.s) d.sP d.sV (aG d.own d.s (by decide))).trans d.s,(e.block _ (al d.wd) d.wP d.wV (aG d.own d.wd (by decide))).trans d.wd,hp,hv,
  (e.block _ (al d.h) d.hP d.hV (aG d.own d.h (by decide))).trans d.h,(e.block _ (al d.f) d.fP d.fV (aG d.own d.f (by decide))).trans d.f,e.keepIs d.hi d.ha,fun ad hA=>?_,ho,hl,?_,d.b2,d.bP,d.bV,d.sP,d.sV,d.wP,d.wV,d.hP,d.hV,d.fP,d.fV,d.pV⟩
 ·obtain⟨h1,h2,h3,h4⟩:=d.ha ad hA;refine⟨h1,h2,fun h=>?_,zB h4 e.size⟩;rcases e.own _ h with h5|h5
  ·exact h3 h5
  ·omega
 ·have b2:=d.b2;have hs:=d.tabs.lt;exact⟨fun k hk=>(wG (w:=w) (hb 0 (by omega) (by omega))).trans (d.tabs.1 k hk),fun k hk=>(wG (w:=w) (hb 1 (by omega) (by omega))).trans (d.tabs.2 k hk)⟩
theorem Dw.ext(d:Dw fl wh n gS gW gP gV gH gF Aw cw Ah nh ch base w ps Ap np cp vv)(e:ab w w'):Dw fl wh n gS gW gP gV gH gF Aw cw Ah nh ch base w' ps Ap np cp vv :=
 d.step (kv.of_ext e) (e.blk d.p) (e.blk d.v) (ao d.own e) d.len
end
def J7(fl:List F)(wh:List Nat)(n gS gW gP gV gH gF:Nat)(Aw:Option Addr)(cw:Nat)(Ah:Option Addr)(nh ch base:Nat)(w:World)(ps:List Nat)(vp:Value)(next wrong:Nat)(e:Ending)(w':World):Prop :=
 ∃(b:Bool) (ps':List Nat) (Ap:Option Addr) (np cp:Nat) (vv:Value),e=.returned (.bool b)/\Dw fl wh n gS gW gP gV gH gF Aw cw Ah nh ch base w' ps' Ap np cp vv/\kv gP gV w vp w' (E Ap np cp)/\np<=cp/\cp<=9223372036854775807 /\
  (b=true->∃S xs,S.Sublist (wh.drop next)/\S.length=wrong/\ps'=ps++S/\xs.length=ps'.length/\(∀p,p<w.heap.size->ak p w' vv (wI xs))/\F.Code (F.addAt fl ps' xs)) /\
  (b=false->ps'=ps/\∀S,S.Sublist (wh.drop next)->S.length=wrong->∀c,F.Off fl c (ps++S)->¬F.Code c)
section
variable {fl:List F} {wh:List Nat} {n gS gW gP gV gH gF:Nat} {Aw:Option Addr} {cw:Nat} {Ah:Option Addr} {nh ch base:Nat}
theorem Bw(next:Nat)(w:World)(ps:List Nat)(Ap:Option Addr)(np cp:Nat)(vv:Value)(d:Dw fl wh n gS gW gP gV gH gF Aw cw Ah nh ch base w ps Ap np cp vv)(h6:np<=6)(hcp:np<=cp/\cp<=9223372036854775807)(hn:fl.length=n)(hn31:n<=31)(hd:ps.Nodup)(hlt:∀p∈ps,p<n) :
  Calls prog 146 #[B C (next:Int),B C 0,.pointer (some ⟨gS,0,none⟩),.pointer (some ⟨gW,0,none⟩),.pointer (some ⟨gP,0,none⟩),.pointer (some ⟨gV,0,none⟩),.pointer (some ⟨gH,0,none⟩),.pointer (some ⟨gF,0,none⟩)] w
   (J7 fl wh n gS gW gP gV gH gF Aw cw Ah nh ch base w ps (E Ap np cp) next 0):=by
 have D:=zZ d;have HN:=zZ hn;have HD:=zZ hd;have HLT:=zZ hlt;obtain⟨hcp1,hcp2⟩:=hcp;have s:∀i,i<6->w.cell? ⟨gS,i,none⟩=some (B C ((aw fl i).n:Int)):=fun i hi=>ac d.s (jR hi);have s0:=s 0 (by omega);have s1:=s 1 (by omega);have s2:=s 2 (by omega);have s3:=s 3 (by omega);have s4:=s 4 (by omega);have s5:=s 5 (by omega);have c1:=ac d.wd (i:=0) rfl;have c2:=ac d.p (i:=0) rfl;have c3:=ac d.v (i:=0) rfl;have c4:=ae d.v 0;have hb2:base<=w.heap.size:=yR d.bP (Nat.le_of_lt (al d.p));have HO:Hid (ak w.heap.size w (E Ap np cp) (fW ps)):=by refine (ak.of_own (p:=0) (base:=base) (e:=3) (n:=np) (l:=fW ps) d.own (by have:=d.b2;omega) (fun x hx=>?_) (by rw[fd,d.len];omega)).re (zX _);unfold fW at hx;obtain⟨q,hq,rfl⟩:=zF.1 hx;have:=hlt q hq;constructor<;>omega
 have hl6:Hid (ps.length<=6):=by show _<=_;rw[d.len];exact h6
 clear s d hn hd hlt;go_enter func146,ntmps146
 go_wp2_with (go_at_call 147;refine (FE _ fl ps n _ D.out.tabs HO.out HN.out hn31 HD.out HLT.out hl6.out).mono ?_;rintro e x1 ⟨A1,m1,cp1,b1,rfl,hx1,ht,hf⟩;have D1:=zZ (D.out.ext hx1);replace hx1:=zZ hx1;replace ht:=zZ ht;replace hf:=zZ hf;replace c3:=ac D1.out.v (i:=0) rfl;replace c4:=ae D1.out.v 0);go_ret
 have hst:kv gP gV x1 (E Ap np cp) (x1.setCell ⟨gV,0,none⟩ (E A1 m1 cp1)) (E Ap np cp):=kv.setV _ _ _ _;have hne:=D1.out.pV;have hown:(x1.setCell ⟨gV,0,none⟩ (E A1 m1 cp1)).ownsRow base 3 1 (E Ap np cp) np ((fW ps).map (Value.int .i64)):=aN D1.out.own (aG D1.out.own D1.out.v (by decide)) _;refine⟨b1,ps,Ap,np,cp,E A1 m1 cp1,rfl,D1.out.step hst ?_ ?_ hown D1.out.len,(kv.of_ext hx1.out).trans hst,hcp1,hcp2,fun hb=>?_,fun hb=>⟨rfl,fun S hS hl c ho hc=>?_⟩⟩
 ·rw[yP _ _ _ _ (by simpa using hne)];exact D1.out.p
 ·exact bn D1.out.v _
 ·obtain⟨xs,hxl,hox,hcode⟩:=ht.out hb;refine⟨[],xs,List.nil_sublist _,rfl,by simp,hxl,fun p hp=>?_,hcode⟩;have hox2:eT w.heap.size (x1.setCell ⟨gV,0,none⟩ (E A1 m1 cp1)) (E A1 m1 cp1) xs:=aN hox (fun h=>by have:=aq hox _ h;have:=al D.out.v;simp only at *;omega) _;exact hox2.isI hp (by rw[hxl,D.out.len];omega)
 ·obtain rfl:=xZ hl;rw[xN]at ho;exact hf.out hb c ho hc
theorem CJ(hn:fl.length=n)(hn31:n<=31)(hnh:wh.length=nh)(hnc:nh<=ch/\ch<=9223372036854775807):∀(wrong next:Nat) (w:World) (ps:List Nat) (Ap:Option Addr) (np cp:Nat) (vv:Value),Dw fl wh n gS gW gP gV gH gF Aw cw Ah nh ch base w ps Ap np cp vv ->
  np+wrong<=6->next<=nh->(np<=cp/\cp<=9223372036854775807)->(ps++wh.drop next).Nodup->(∀p∈ps++wh.drop next,p<n) ->
  Calls prog 146 #[B C (next:Int),B C (wrong:Int),.pointer (some ⟨gS,0,none⟩),.pointer (some ⟨gW,0,none⟩),.pointer (some ⟨gP,0,none⟩),.pointer (some ⟨gV,0,none⟩),.pointer (some ⟨gH,0,none⟩),.pointer (some ⟨gF,0,none⟩)] w
   (J7 fl wh n gS gW gP gV gH gF Aw cw Ah nh ch base w ps (E Ap np cp) next wrong):=by
 intro wrong;have HN:=zZ hn;have HNH:=zZ hnh;obtain⟨hnc1,hnc2⟩:=hnc;clear hn hnh;induction wrong with
 |zero =>
  intro next w ps Ap np cp vv d h6 hnx hcp hd hlt;exact Bw next w ps Ap np cp vv d (by omega) hcp HN.out hn31 (uO.1 hd).1 (fun p hp=>hlt p (xH _ hp))
 |succ m ih =>
  intro next w ps Ap np cp vv d h6 hnx hcp hd hlt;have HIH:=zZ ih;have D:=zZ d;have HD:=zZ hd;have HLT:=zZ hlt;obtain⟨hcp1,hcp2⟩:=hcp;obtain⟨q,hq⟩:=nm (m+1);rw[<-hq];have hnz:((q:Int)==0)=false:=by simp;omega
  have hqm:(q:Int)-1=(m:Int):=by omega
  have HQ:=zZ hq;have hq1:1<=q:=by omega
  have hq6:q<=6:=by omega
  clear hq;obtain⟨i0,hi0,hz0,hz1,hz2⟩:=info_parts Tryz.infoI;clear ih d hd hlt;go_enter func146,ntmps146
  go_wp2_with fail;go_loopw [12] (fun s12 wr=>∃(k:Nat) (Aq:Option Addr) (cq:Nat) (vq:Value),s12=B C k/\next<=k/\k<=nh/\np<=cq/\cq<=9223372036854775807/\Hid (Dw fl wh n gS gW gP gV gH gF Aw cw Ah nh ch base wr ps Aq np cq vq/\kv gP gV w (E Ap np cp) wr (E Aq np cq)/\∀i x,next<=i->i<k->wh[i]?=some x->∀S,S.Sublist (wh.drop (i+1))->S.length=m->∀c,F.Off fl c (ps++x::S)->¬F.Code c)) (fun i _=>nh-(intOf i).toNat)
  case atStart=>exact⟨next,Ap,cp,vv,rfl,by omega,by omega,by omega,by omega,D.out,kv.refl _ _ _ _,fun i x h1 h2=>by omega⟩
  case round =>
   clear D;obtain⟨k,Aq,cq,vq,rfl,hk1,hk2,hcq1,hcq2,HK⟩:=hrel;have D:=zZ HK.out.1;have HF:=zZ HK.out.2.1;have HNO:=zZ HK.out.2.2;clear HK;have c5:=ac D.out.h (i:=0) rfl;by_cases hkn:k<nh
   ·obtain⟨b,o,z,rfl,-⟩:=D.out.hi.at_ hkn;obtain⟨z,hcz,HZ,-⟩:=D.out.hi.cell_ hkn;obtain⟨x,hx,rfl⟩:=oz HZ.out;have HX:=zZ hx;clear hx HZ;have c2:=ac D.out.p (i:=0) rfl;have hS:wr.drew.cell? ⟨gP,0,none⟩=some (E Aq np cq)/\wr.drew.cell? ⟨gH,0,none⟩=some (E (some ⟨b,o,none⟩) nh ch)/\wr.drew.cell? ⟨b,o+k,none⟩=some (B C (x:Int)):=⟨c2,c5,hcz⟩
    replace hS:=zZ hS;have e1:(0:Int)<=(k:Int):=xT _;have e2:(k:Int)<(nh:Int):=by omega
    go_upto_region 8 with (fail)
    refine zR 7 (fun w'=>w'.cell? ⟨gP,0,none⟩=some (E Aq np cq)/\w'.cell? ⟨gH,0,none⟩=some (E (some ⟨b,o,none⟩) nh ch)/\w'.cell? ⟨b,o+k,none⟩=some (B C (x:Int))) ?_;refine zS 5 [(0,31),(1,32),(2,33),(3,34),(4,35)] hS.out ?_;iterate 5 refine zT ?_
    refine zN (zO 5 (fun K hK=>?_));go_simp;have E1:=zZ (((zE wr).alloc (.cells #[B C (x:Int)] 3)).drew);have D1:=zZ (D.out.ext E1.out);have hce:((wr.alloc (.cells #[B C (x:Int)] 3)).drew).cell? ⟨gP,0,none⟩=some (E Aq np cq)/\((wr.alloc (.cells #[B C (x:Int)] 3)).drew).cell? ⟨gH,0,none⟩=some (E (some ⟨b,o,none⟩) nh ch)/\((wr.alloc (.cells #[B C (x:Int)] 3)).drew).cell? ⟨b,o+k,none⟩=some (B C (x:Int)):=⟨E1.out.cell c2,E1.out.cell c5,E1.out.cell hcz⟩
    refine hK.out _ _ (fun _=>hce) ?_;clear hK K;try simp only[kA]
    refine zO 6 (fun K hK=>?_);refine step_append_lies _ (by rfl) _ _ _ (by rfl) base 3 i0 _ 1 8 underlying22 hi0 hz0 hz1 hz2 rfl (by omega) (E Aq np cq) np ((fW ps).map (Value.int .i64)) (by rfl) D1.out.own ⟨wr.heap.size,0,none⟩ 1 1 [B C (x:Int)] (by rfl) (by rfl) (World.news_of_block (cs:=#[B C (x:Int)]) (t:=3) (fr:=(0,0)) (heap_alloc_new wr _)) (by simp[Value.oneCell']) (by omega) (by unfold maxLen;omega) (by omega) (by have:=al D1.out.p;have:=D1.out.bP;omega) (wr.heap.size+1) (by simp) ?_;intro gg cap w3 hown3 hgrow hat hlt3;have hF3:kv gP gV wr (E Aq np cq) w3 (E (some ⟨gg,0,none⟩) (np+1) cap):=(kv.of_ext E1.out).trans (kv.grown hgrow (fun _ h=>h) (fun k hk=>by
     have e:gg=k:=by simpa[Value.ownBlock] using hk
     subst e;rcases hat with h|h
     ·exact .inl h
     ·exact .inr (by simp;omega)))
    have hP3:w3.heap[gP]?=some (.cells #[E Aq np cq] 22 (0,0)):=(hgrow.block _ (al D1.out.p) (fun e=>aG D1.out.own D1.out.p (by decide) e.symm)).trans D1.out.p;have hV3:w3.heap[gV]?=some (.cells #[vq] 22 (0,0)):=(hgrow.block _ (al D1.out.v) (fun e=>aG D1.out.own D1.out.v (by decide) e.symm)).trans D1.out.v;have hH3:w3.heap[gH]?=some (.cells #[E (some ⟨b,o,none⟩) nh ch] 22 (0,0)):=(hF3.block _ (al D.out.h) D.out.hP D.out.hV (aG D.out.own D.out.h (by decide))).trans D.out.h;have hz3:w3.cell? ⟨b,o+k,none⟩=some (B C (x:Int)):=by obtain⟨g1,g2,g3,g4⟩:=D.out.ha _ rfl;exact (wG (w:=wr) (hF3.block b g4 g1 g2 g3)).trans hcz
    have HO3:Hid (w3.ownsRow base 3 1 (E (some ⟨gg,0,none⟩) (np+1) cap) (np+1) ((fW (ps++[x])).map (Value.int .i64))):=by
     have:fW (ps++[x])=fW ps++[(x:Int)]:=by simp[fW]
     show World.ownsRow _ _ _ _ _ _ _
     rw[this,yG];exact hown3
    have hcap:=lG hown3;have HF3:=zZ hF3;have HP3:=zZ hP3;have HV3:=zZ hV3;have hc3:=ac hP3 (i:=0) rfl;have hf3:=ae hP3 0;have hh3:=ac hH3 (i:=0) rfl;clear hown3 hgrow hat hlt3 hce hF3 hP3 hV3 hH3;obtain⟨hcap1,hcap2⟩:=hcap;change K (Act.put _ (some 37) _) w3;refine hK.out _ _ (fun _=>⟨hc3,hh3,hz3⟩) ?_;clear hK K;try simp only[kA]
    refine zO 7 (fun K hK=>?_);go_simp;refine hK.out _ _ (fun h=>absurd rfl h) ?_;clear hK K;refine zD ?_;have hst:kv gP gV w3 (E (some ⟨gg,0,none⟩) (np+1) cap) (w3.setCell ⟨gP,0,none⟩ (E (some ⟨gg,0,none⟩) (np+1) cap)) (E (some ⟨gg,0,none⟩) (np+1) cap):=kv.setP _ _ _ _;have HF4:=zZ (HF3.out.trans hst);have D4:Hid (Dw fl wh n gS gW gP gV gH gF Aw cw (some ⟨b,o,none⟩) nh ch base (w3.setCell ⟨gP,0,none⟩ (E (some ⟨gg,0,none⟩) (np+1) cap)) (ps++[x]) (some ⟨gg,0,none⟩) (np+1) cap vq):=by refine D.out.step HF4.out (bn HP3.out _) ?_ (aN HO3.out (aG HO3.out HP3.out (by decide)) _) (by simp[D.out.len]);rw[yP _ _ _ _ (by simpa using D.out.pV.symm)];exact HV3.out
    clear hst HO3 HP3 HV3 hc3 hf3 hh3 hz3 HF3 D1 hS c2 c5 hcz;generalize w3.setCell ⟨gP,0,none⟩ (E (some ⟨gg,0,none⟩) (np+1) cap)=W4 at *
    have HCA:Hid (Calls prog 146 #[B C ((k:Int)+1),B C (m:Int),.pointer (some ⟨gS,0,none⟩),.pointer (some ⟨gW,0,none⟩),.pointer (some ⟨gP,0,none⟩),.pointer (some ⟨gV,0,none⟩),.pointer (some ⟨gH,0,none⟩),.pointer (some ⟨gF,0,none⟩)] W4 (J7 fl wh n gS gW gP gV gH gF Aw cw (some ⟨b,o,none⟩) nh ch base W4 (ps++[x]) (E (some ⟨gg,0,none⟩) (np+1) cap) (k+1) m)):=by
     have hsub:((ps++[x])++wh.drop (k+1)).Sublist (ps++wh.drop next):=by
      rw[xY];refine List.Sublist.append_left ?_ ps;have:[x]++wh.drop (k+1)=wh.drop k:=by obtain⟨hk,e⟩:=zY.1 HX.out;rw[vZ hk,e];rfl
      rw[this];obtain⟨j,hj⟩:∃j,k=next+j:=⟨k-next,by omega⟩
      rw[hj,<-List.drop_drop];exact List.drop_sublist _ _
     exact HIH.out (k+1) W4 (ps++[x]) _ (np+1) cap vq D4.out (by omega) (by omega) ⟨hcap1,hcap2⟩ (HD.out.sublist hsub) (fun p hp=>HLT.out p (hsub.subset hp))
    have c7:=ac D4.out.f (i:=0) rfl;go_upto_if 43 with (go_at_call 146;refine HCA.out.mono ?_;rintro e x5 ⟨b5,ps5,A5,n5,c5,v5,rfl,d5,f5,g51,g52,ht,hf⟩;replace d5:=zZ d5;replace f5:=zZ f5;replace ht:=zZ ht;replace hf:=zZ hf)
    clear c7 HCA HIH;have hEX:kv gP gV w (E Ap np cp) x5 (E A5 n5 c5):=(HF.out.trans HF4.out).trans f5.out;replace hEX:=zZ hEX;cases b5 with
    |true =>
     go_wp2_with fail;go_ret
     obtain⟨S,xs,q1,q2,q3,q4,q5,q6⟩:=ht.out trivial;refine⟨true,ps5,A5,n5,c5,v5,rfl,d5.out,hEX.out,g51,g52,fun _=>⟨x::S,xs,?_,by rw[HQ.out];simp[q2],by rw[q3];simp,q4,fun p hp=>q5 p (zB hp (HF.out.trans HF4.out).size),q6⟩,fun h=>by cases h⟩;obtain⟨hk,e⟩:=zY.1 HX.out;have h1:(x::S).Sublist (wh.drop k):=by rw[vZ hk,e];exact q1.cons_cons x
     obtain⟨j,hj⟩:∃j,k=next+j:=⟨k-next,by omega⟩
     rw[hj,<-List.drop_drop]at h1;exact h1.trans (List.drop_sublist _ _)
    |false =>
     obtain⟨hps5,hno5⟩:=hf.out rfl;subst hps5;have hn5:n5=np+1:=by rw[<-d5.out.len,<-D.out.len];simp
     subst hn5;obtain⟨g5,rfl⟩:∃g5,A5=some ⟨g5,0,none⟩:=by
      rcases d5.out.own.2 with ⟨e,h0⟩|⟨g',cap',cur,e,_⟩
      ·omega
      ·injection e with e1;exact⟨g',e1⟩
     have HNO5:=zZ hno5;clear hno5 ht hf;have c2:=ac d5.out.p (i:=0) rfl;have c2f:=ae d5.out.p 0;have w1:IntKind.i64.wrap (((np+1:Nat):Int)-1)=(np:Int):=by rw[yN _ (by omega)];omega
     go_upto_region 7 with (fail)
     have hst0:kv gP gV x5 (E (some ⟨g5,0,none⟩) (np+1) c5) x5 (E (some ⟨g5,0,none⟩) np c5):=⟨rfl,rfl,rfl,zX _,fun _ _ _ _ _=>rfl,fun k hk=>.inl (by simpa[Value.ownBlock] using hk)⟩
     have hst:kv gP gV x5 (E (some ⟨g5,0,none⟩) (np+1) c5) (x5.setCell ⟨gP,0,none⟩ (E (some ⟨g5,0,none⟩) np c5)) (E (some ⟨g5,0,none⟩) np c5):=hst0.trans (kv.setP _ _ _ _);have HF6:=zZ (hEX.out.trans hst);have D6:Hid (Dw fl wh n gS gW gP gV gH gF Aw cw (some ⟨b,o,none⟩) nh ch base (x5.setCell ⟨gP,0,none⟩ (E (some ⟨g5,0,none⟩) np c5)) ps (some ⟨g5,0,none⟩) np c5 v5):=by
      have ho:=GV d5.out.own (show np<=np+1 by omega);have e:(((fW (ps++[x])).map (Value.int .i64)).take (np*1))=(fW ps).map (Value.int .i64):=by
       rw[wH];have:fW (ps++[x])=fW ps++[(x:Int)]:=by simp[fW]
       rw[this,yG,List.take_append_of_le_length (by simp[fd,D.out.len]),xV (by simp[fd,D.out.len])]
      rw[e]at ho;refine d5.out.step hst (bn d5.out.p _) ?_ (aN ho (aG ho d5.out.p (by decide)) _) D.out.len;rw[yP _ _ _ _ (by simpa using D.out.pV.symm)];exact d5.out.v
     clear hst hst0 c2 c2f w1 f5 d5;go_wp2_with fail;go_roundw
     case rel =>
      refine⟨k+1,some ⟨g5,0,none⟩,c5,v5,by go_num,by omega,by omega,by omega,by omega,D6.out,HF6.out,fun i y h1 h2 hy S hS hl c ho hc=>?_⟩;by_cases e:i=k
      ·subst e;rw[HX.out]at hy;injection hy with hy;subst hy;refine HNO5.out S hS hl c ?_ hc;rw[xY];exact ho
      ·exact HNO.out i y h1 (by omega) hy S hS hl c ho hc
     case measure=>simp[intOf];omega
   ·have hke:k=nh:=by omega
    go_wp2_with fail;go_ret
    refine⟨false,ps,Aq,np,cq,vq,rfl,D.out,HF.out,hcq1,hcq2,(fun h=>by cases h),fun _=>⟨rfl,fun S hS hl c ho hc=>?_⟩⟩;rw[HQ.out]at hl;match S,hl with
    |x::S,hl =>
     obtain⟨i,h1,h2,h3⟩:=EG next hS;have hi:=(zY.1 h2).1;exact HNO.out i x h1 (by rw[HNH.out]at hi;omega) h2 S h3 (by simpa using hl) c ho hc
end
end Go.Proofs.YtpaidaphacoblaaGreatDoor

