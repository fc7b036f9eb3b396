import Derived.Test.YtpaidaphacoblaaGreatDoorK23
set_option linter.all false
set_option maxRecDepth 100000
set_option maxHeartbeats 0
namespace Go.Proofs.YtpaidaphacoblaaGreatDoor
open Go.Value renaming int→B,slice→E
open Go.IntKind renaming i64→D
open Go.RowKit
variable {a f k n o p t:Nat} {w:World} {d lead x y:Int} {l:List Int}
noncomputable def labR(c:aj):cJ:=(dR c.str).getD cJ.zero
structure iJ (s:dl) (C:List aj):Prop where
 ids:FB C
 one:∀c∈C,c.kind=1/\dR c.str=some (labR c)/\bH s (labR c) c.ch=true
 inj:∀c∈C,∀d∈C,labR c=labR d->c=d
theorem o6{C:List aj}(h:FB C){c:aj}(hc:c∈C)(hk:c.kind=1):C.find? (dm c.id)=some c:=by obtain⟨i,hi⟩:=zH hc;refine ja hi (by unfold dm;simp[hk]) fun j d hj hd=>?_;have:=kO h hd hi hj;unfold dm;simp[this]
section
variable {s:dl} {C:List aj}
theorem iJ.label(h:iJ s C){c:aj}(hc:c∈C):aQ C c.id=(labR c,0):=by
 have h1:=h.one c hc;unfold aQ;rw[o6 h.ids hc h1.1];have:C.filter (fH c.id)=[]:=by rw[List.filter_eq_nil_iff];intro d hd;have:=(h.one d hd).1;unfold fH;simp[this]
 rw[this];unfold iI;simp[h1.2.1]
theorem iJ.scn(h:iJ s C){c:aj}(hc:c∈C):aM s C c=⟨c,labR c,0,true⟩:=by have h1:=h.one c hc;unfold aM;rw[if_pos h1.1,h.label hc];simp[h1.2.2]
theorem iJ.row(h:iJ s C){i:Nat}{x:dH}(hx:(af s C)[i]?=some x):x.cap∈C/\x=⟨x.cap,labR x.cap,0,true⟩:=by obtain⟨h1,h2⟩:=de hx;have hm:=zW h1;refine⟨hm,?_⟩;rw[h.scn hm]at h2;exact h2
theorem iJ.state(h:iJ s C){i:Nat}{x:dH}(hx:(af s C)[i]?=some x):cR (af s C) i x=1:=by
 obtain⟨hm,he⟩:=h.row hx;have hlab:x.lab=labR x.cap:=by rw[he]
 have hsame:∀(k:Nat) y,(af s C)[k]?=some y->dB x y=true->k=i:=by
  intro k y hy hs;obtain⟨hmy,hey⟩:=h.row hy;have hlaby:y.lab=labR y.cap:=by rw[hey]
  unfold dB at hs;simp only[yT,decide_eq_true_eq]at hs;have hcc:=h.inj _ hmy _ hm (by rw[<-hlaby,<-hlab];exact hs.2);have e1:=(de hy).1;have e2:=(de hx).1;rw[hcc]at e1;rcases xO i k with e|e|e
  ·exact absurd rfl (kO h.ids e2 e1 e)
  ·exact e.symm
  ·exact absurd rfl (kO h.ids e1 e2 e)
 unfold cR;rw[show x.fit=true by rw[he],if_pos rfl];unfold dL;rw[if_neg,if_neg]
 ·simp only[Bool.not_eq_true,wO];intro y hy;obtain⟨k,hk⟩:=zH hy;rw[yB]at hk;split at hk
  ·rename_i hki
   cases hs:dB x y with
   |false=>simp
   |true=>have:=hsame k y hk hs;omega
  ·cases hk
 ·simp only[Bool.not_eq_true,wO,yT,not_and];intro y hy hs;obtain⟨k,hk⟩:=zH hy;obtain rfl:=hsame k y hk hs;rw[hx]at hk;injection hk with hk;subst hk;unfold en;simp
theorem iJ.mem_sts(h:iJ s C){x:dF}:x∈(cQ s C).sts↔∃c∈C,x=⟨c.id,1,labR c⟩:=by
 rw[Go.Proofs.YtpaidaphacoblaaGreatDoor.mem_sts];constructor
 ·rintro⟨i,y,hy,hk,rfl⟩;obtain⟨hm,he⟩:=h.row hy;refine⟨y.cap,hm,?_⟩;unfold lN;rw[h.state hy];rw[show y.lab=labR y.cap by rw[he]]
 ·rintro⟨c,hc,rfl⟩;obtain⟨i,hi⟩:=zH hc;have hr:=lL (s:=s) hi;refine⟨i,_,hr,by rw[ff];exact (h.one c hc).1,?_⟩;unfold lN;rw[h.state hr,h.scn hc]
theorem iJ.mem_pgs(h:iJ s C){x:Pg}:x∈(cQ s C).pgs↔∃c∈C,x=⟨(labR c).c,(labR c).g,c.cont,c.ch,c.id⟩:=by
 rw[Go.Proofs.YtpaidaphacoblaaGreatDoor.mem_pgs];constructor
 ·rintro⟨i,y,hy,hk,hu,rfl⟩;obtain⟨hm,he⟩:=h.row hy;refine⟨y.cap,hm,?_⟩;unfold Gs;rw[show y.lab=labR y.cap by rw[he]]
 ·rintro⟨c,hc,rfl⟩;obtain⟨i,hi⟩:=zH hc;have hr:=lL (s:=s) hi;refine⟨i,_,hr,by rw[ff];exact (h.one c hc).1,h.state hr,?_⟩;unfold Gs;rw[h.scn hc]
theorem iJ.len_to(h:iJ s C):∀k,k<=C.length->(aZ (af s C) k).length=k/\(bW (af s C) k).length=k
 |0,_=>⟨rfl,rfl⟩
 |k+1,hk=>by
  obtain⟨h1,h2⟩:=h.len_to k (by omega);have hc:C[k]?=some C[k]:=zV (by omega);have hr:=lL (s:=s) hc;have hs:=h.state hr;have hk1:(aM s C C[k]).cap.kind=1:=by rw[ff];exact (h.one _ (xC _)).1
  have e1:ry (af s C) k=some (lN (af s C) k (aM s C C[k])):=by unfold ry;rw[hr];simp only[uL];rw[if_pos hk1]
  have e2:Pm (af s C) k=some (Gs (aM s C C[k])):=by unfold Pm;rw[hr];simp only[uL];rw[if_pos ⟨hk1,hs⟩]
  rw[kC,jO,e1,e2,yU,yU,h1,h2];exact⟨rfl,rfl⟩
theorem iJ.len(h:iJ s C):(cQ s C).sts.length=C.length/\(cQ s C).pgs.length=C.length:=by rw[ID,Ec];exact h.len_to _ (zX _)
theorem kj{L:List aj}(hv:∀c∈L,dT c.st=true)(hi:∀c∈L,∀d∈L,c.id=d.id->c=d){c:aj}:c∈ay L↔c∈L:=by rw[gf];refine⟨fun h=>h.1,fun h=>⟨h,eu.2 ⟨hv c h,fun d hd _ he=>hi d hd c h he⟩⟩⟩
theorem Ax{L:List aj}(hv:∀c∈L,dT c.st=true)(hi:∀c∈L,∀d∈L,c.id=d.id->c=d)(h1:∀c∈L,c.kind=1/\dR c.str=some (labR c)/\bH s (labR c) c.ch=true)(h2:∀c∈L,∀d∈L,labR c=labR d->c=d):iJ s (ay L) :=
 ⟨sN,fun c hc=>h1 c ((kj hv hi).1 hc),fun c hc d hd=>h2 c ((kj hv hi).1 hc) d ((kj hv hi).1 hd)⟩
theorem sz{L M:List aj}(hn:L.Nodup)(hm:∀c,c∈M↔c∈L)(hv:∀c∈L,dT c.st=true)(hi:∀c∈L,∀d∈L,c.id=d.id->c=d):(ay M).length=L.length:=by rw[sD hm];exact ((List.perm_ext_iff_of_nodup ((jE L).nodup qk) hn).2 fun c=>kj hv hi).length_eq
end
open _root_.Go.Proofs.Tryz
theorem Pl(v:Value)(l:List Int)(w:World)(hp:p<w.heap.size)(h:ak p w v l)(hl:l.length<=1000) :
  Calls prog 35 #[v] w fun e w'=>∃v',e=.returned v'/\ak p w' v' l/\ab w w':=by
 obtain⟨A,n,c,rfl,hnc,hc,hnn,HL⟩:=h.open_;have hn:n<=1000:=by have:=HL.out;omega
 have H:=zZ h;clear h hl;obtain⟨i0,hi0,hz0,hz1,hz2⟩:=info_parts Tryz.infoI;have q28:∀(w:World) (a:Option Addr) (n c n' c':Nat),(binOp .eql 22 (E a n c) (E none n' c')).run prog w=.ok (.bool a.isNone) w:=fun w a n c n' c'=>Lib.run_eql_slice_nil w _ _ a n c n' c' underlying22;rcases A with _|⟨b,off,ix⟩
 ·go_enter func35,ntmps35
  go_wp2_with fail;go_ret
  refine⟨_,rfl,?_,zE _⟩;have:l=[]:=by
   rcases vE n with h0|h0
   ·exact xZ (by have:=HL.out;omega)
   ·obtain⟨b,off,x,hb,_⟩:=H.out.at_ h0;cases hb
  rw[this];exact ak.nil _ _
 ·go_enter func35,ntmps35
  have HO:Hid ((w.alloc (.cells #[] 3)).ownsRow w.heap.size 3 1 (E (some ⟨w.heap.size,0,none⟩) 0 0) 0 []):=uT w #[] 0 (zX _) (by unfold maxLen;omega) rfl;go_wp2_with (at_builtin;refine dh _ rfl (.tmp 5) (.tmp 6) 22 rfl w.heap.size 3 i0 _ 8 underlying22 hi0 hz0 hz1 hz2 rfl _ 0 [] rfl HO.out p (some ⟨b,off,ix⟩) n c l rfl (H.out.ext ((zE _).alloc _)) (by omega) (by omega) (by simp) ?_;intro v' w' hown hg);go_ret
  refine⟨_,rfl,ak.of_own (base:=w.heap.size) (e:=3) (by simpa using hown) hp (fun x hx=>H.out.mem hx) (by have:=HL.out;omega),?_⟩;exact ab.grown ((zE _).alloc _) hg (fun k hk=>by have:=aq HO.out k hk;omega)
def PS(p:Nat)(w:World)(fs:List lY)(cs:List Int)(e:Ending)(w':World):Prop :=
 ∃(v:Value) (rs:List (List Int)) (er:Int),e=.returned (.tuple #[v,B D er])/\oc p w' v rs/\ab w w' /\
  (fs.length≠cs.length->rs=[]/\er=1)/\(fs.length=cs.length->rs=j4 fs cs cs.length/\er=0)
theorem ak.sub{b off c x y:Nat}(h:ak p w (E (some ⟨b,off,none⟩) n c) l)(hxy:x<y)(hy:y<=n):ak p w (E (some ⟨b,off+x,none⟩) (y-x) (y-x)) ((l.take y).drop x):=by
 have hl:=h.len;obtain⟨A',c',hv,h1,h2,h3,h5,h4⟩:=h;injection hv with ha hn hc;subst ha;subst hc;have hlk:((l.take y).drop x).length=y-x:=by rw[wD,yW];omega
 refine⟨_,y-x,by rw[hlk],by omega,by omega,by omega,fun z hz=>h5 z (uI (List.mem_of_mem_drop hz)),fun i z hz=>?_⟩;rw[vR,yB]at hz;split at hz
 ·obtain⟨b',off',ha,hb,hcell⟩:=h4 _ z hz;injection ha with ha;injection ha with e1 e2;subst e1;subst e2;exact⟨b,off+x,rfl,hb,by rw[wC];exact hcell⟩
 ·cases hz
theorem Ph{fs:List lY}{a b:lY}(ha:fs[k+1]?=some a)(hb:fs[k]?=some b)(h:a.part≠b.part):KF fs (k+1):=by refine .inr fun a' b' ha' hb'=>?_;rw[ha]at ha';rw[Nat.add_sub_cancel,hb]at hb';injection ha' with ha';injection hb' with hb';subst ha';subst hb';exact h
theorem Ot{fs:List lY}{a b:lY}(ha:fs[k+1]?=some a)(hb:fs[k]?=some b)(h:a.part=b.part):¬KF fs (k+1):=by
 rintro (h0|h0)
 ·omega
 ·exact h0 a b ha (by rw[Nat.add_sub_cancel];exact hb) h
def KS(fs:List lY)(f t:Nat)(x:Int):Prop:=∀k q,f<=k->k<t->fs[k]?=some q->q.part=x
theorem KS.runs{fs:List lY}(h:KS fs f t x)(ht:t<=fs.length):∀k,f<k->k<t->¬KF fs k:=by
 intro k hk hkt;obtain⟨j,rfl⟩:∃j,k=j+1:=⟨k-1,by omega⟩
 have ha:fs[j+1]?=some fs[j+1]:=zV (by omega);have hb:fs[j]?=some fs[j]:=zV (by omega);exact Ot ha hb ((h _ _ (by omega) hkt ha).trans (h _ _ (by omega) (by omega) hb).symm)
theorem KS.step{fs:List lY}{q:lY}(h:KS fs f t x)(hq:fs[t]?=some q)(hx:q.part=x):KS fs f (t+1) x:=by
 intro k r hk hkt hr;rcases zU k t with h1|h1
 ·exact h k r hk h1 hr
 ·obtain rfl:k=t:=by omega
  rw[hq]at hr;injection hr with hr;subst hr;exact hx
theorem KS.stop{fs:List lY}{q:lY}(h:KS fs f t x)(hft:f<t)(ht:t<=fs.length)(hq:fs[t]?=some q)(hx:q.part≠x):KF fs t:=by
 obtain⟨j,rfl⟩:∃j,t=j+1:=⟨t-1,by omega⟩
 have hb:fs[j]?=some fs[j]:=zV (by omega);exact Ph hq hb (fun e=>hx (e.trans (h _ _ (by omega) (by omega) hb)))
theorem Ok{fs:List lY}(h:fs.length<=k):KF fs k:=.inr fun a b ha=>by rw[zC h]at ha;cases ha
def zn(p base eS:Nat)(w1 w:World)(v:Value)(ls:List (List Int)):Prop :=
 ∃us:List Value,us.length=ls.length/\w.ownsRow base eS 1 v ls.length us/\ab w1 w/\∀(j:Nat) (u:Value) (l:List Int),us[j]?=some u->ls[j]?=some l->ak p w1 u l
theorem zn.isP{base eS:Nat}{w1:World}{v:Value}{ls:List (List Int)}(h:zn p base eS w1 w v ls)(hp:p<base):oc p w v ls:=by obtain⟨us,a,b,c,f⟩:=h;refine bj.of_own (e:=eS) (us.map fun u=>[u]) (by simp) (by decide) (by simpa using a) (by rw[AY];exact b) hp ?_;intro k cs x hcs hx;simp only[zP,yO]at hcs;obtain⟨u,hu,rfl⟩:=hcs;exact⟨u,rfl,(f k u x hu hx).ext c⟩
theorem zn.push{base eS:Nat}{w1 w':World}{v v' u:Value}{ls:List (List Int)}{us:List Value}(h:zn p base eS w1 w v ls)(hus:w.ownsRow base eS 1 v ls.length us)(hu:ak p w1 u l)(hx:ab w1 w')(h':w'.ownsRow base eS 1 v' (ls.length+1) (us++[u])):zn p base eS w1 w' v' (ls++[l]):=by
 obtain⟨us0,a,b,c,f⟩:=h;obtain rfl:=rR b hus;refine⟨us0++[u],by simp[a],by simpa using h',hx,fun j z m hz hm=>?_⟩;rcases zU j ls.length with hj|hj
 ·rw[yY (by omega)]at hz;rw[yY hj]at hm;exact f j z m hz hm
 ·rw[yL (by omega)]at hz;rw[yL hj]at hm;have hj0:j-ls.length=0:=by
   have:=(zY.1 hm).1;simp at this;omega
  rw[a,hj0]at hz;rw[hj0]at hm;simp at hz hm;subst hz;subst hm;exact hu
theorem OW(v0:Value)(fs:List lY)(v1:Value)(cs:List Int)(w:World)(hp:p<w.heap.size)(h0:Lg p w v0 fs)(h1:ak p w v1 cs)(hl:cs.length<=1000) :
  Calls prog 125 #[v0,v1] w (PS p w fs cs):=by
 obtain⟨A0,n0,c0,rfl,hnc0,hc0,hnn0,HL0⟩:=h0.open_;obtain⟨A1,n1,c1,rfl,hnc1,hc1,hnn1,HL1⟩:=h1.open_;obtain⟨iS,hiS,hy0,hy1,hy2⟩:=info_parts Tryz.infoS;have H0:=zZ h0;have H1:=zZ h1;have HL:=zZ hl;clear h0 h1 hl;by_cases hn:n0=n1
 ·subst hn;go_enter func125,ntmps125
  go_wp2_with fail;refine (Pl _ cs _ hp H1.out HL.out).mono ?_;rintro e w1 ⟨v2,rfl,hI,hE⟩;obtain⟨A2,n2,c2,rfl,hnc2,hc2,hnn2,HL2⟩:=hI.open_;obtain rfl:n0=n2:=HL1.out.symm.trans HL2.out;have HI:=zZ hI;have HE:=zZ hE;have HF:=zZ (H0.out.ext (Ko.stab p) hE);have hp1:p<w1.heap.size:=zB hp hE.size;have hn1000:n0<=1000:=by have:=HL.out;have:=HL1.out;omega
  clear hI hE;go_wp2_with fail;go_loopw [7,8] (fun s7 s8 wr=>∃(k n7 c7:Nat) (A7:Option Addr) (ls:List (List Int)),k<=n0/\n7<=k/\s7=E A7 n7 c7/\s8=B D k /\
    Hid (ls.length=n7/\ls=j4 fs cs k/\KF fs k/\zn p w1.heap.size 22 w1 wr (E A7 n7 c7) ls)) (fun _ i _=>n0-(intOf i).toNat)
  case atStart=>exact⟨0,0,0,none,[],by omega,by omega,rfl,rfl,rfl,rfl,.inl rfl,[],rfl,yZ _ _ _ _,zE _,fun j u l hu=>by simp at hu⟩
  case round =>
   obtain⟨wo,rfl⟩:=nm (wr:World);obtain⟨k,n7,c7,A7,ls,hk,hn7,rfl,rfl,HR⟩:=hrel;by_cases hlt:k<n0
   ·obtain⟨b,off,cs0,q0,rfl,_⟩:=H0.out.at_ hlt;obtain⟨b2,off2,x2,rfl,_⟩:=HI.out.at_ hlt;have hEo:ab w1 wo:=HR.out.2.2.2.choose_spec.2.2.1;have HEO:=zZ hEo;have HFO:=zZ (HF.out.ext (Ko.stab p) hEo);obtain⟨q,cq,_,HQ,hq1,hq2⟩:=HFO.out.fld hlt;clear hEo;go_wp2_with fail;go_loopw [9] (fun s9 wr=>∃(t m:Nat),k<t/\t<=n0/\s9=B D t/\wr=wo.drewN m/\Hid (KS fs k t q.part)) (fun i _=>n0-(intOf i).toNat)
    case atStart=>exact⟨k+1,0,by omega,by omega,by go_num,rfl,fun j r hj hj' hr=>by
     obtain rfl:j=k:=by omega
     rw[HQ.out]at hr;injection hr with hr;rw[hr]⟩
    case round =>
     obtain⟨t,m,ht,ht',rfl,rfl,HS⟩:=hrel;by_cases htn:t<n0
     ·obtain⟨r,cr,_,HRq,hr1,hr2⟩:=HFO.out.fld htn;by_cases hsame:r.part=q.part
      ·have hb1:(r.part==q.part)=true:=by simp[hsame]
       go_wp2_with fail;go_quiet (fail)
       go_wp2_with fail;go_roundw
       case rel=>exact⟨t+1,_,by omega,by omega,by go_num,rfl,HS.out.step HRq.out hsame⟩
       case measure=>simp[intOf];omega
      ·have hb1:(r.part==q.part)=false:=by simp[hsame]
       obtain⟨us,hus,hOS,_⟩:=HR.out.2.2.2;have HOS:Hid (∀m o,((wo.drewN m).alloc o).ownsRow w1.heap.size 22 1 (E A7 n7 c7) n7 us):=fun m o=>by have:=ao hOS (((zE wo).drewN m).alloc o);rw[HR.out.1]at this;exact this
       have HOS0:=zZ hOS;clear hOS;go_wp2_with fail;go_quiet (fail)
       go_wp2_with (at_builtin;go_loud (refine aF _ rfl (.tmp 42) (.tmp 48) 59 rfl w1.heap.size 22 iS _ 24 underlying59 hiS hy0 hy1 hy2 rfl _ n7 us rfl (HOS.out _ _) _ _ rfl (ac (heap_alloc_new (wo.drewN _) _) (i:=0) rfl) rfl (by omega) (by omega) (by have:=HEO.out.size;first|omega|(simp;omega)|(show w1.heap.size<=(World.alloc _ _).heap.size;rw[World.heap_alloc_size];show w1.heap.size<=wo.heap.size+1;omega)) ?_);intro v' w3 hown' hg';obtain⟨g',cap',rfl,_,_⟩:=di hown' (by omega);have HO3:=zZ hown';have HE3:=zZ (ab.grown ((HEO.out.drewN _).alloc _) hg' (fun k hk=>by have:=aq (HOS.out 0 (.cells #[] 3)) k hk;omega));clear hown' hg');go_roundw
       case rel=>exact⟨t,n7+1,cap',_,ls++[(cs.take t).drop k],by omega,by omega,rfl,rfl,by have:=HR.out.1;simp;omega,by rw[HR.out.2.1];exact (MC (by have:=HL1.out;omega) HR.out.2.2.1 ht (HS.out.runs (by have:=HL0.out;omega))).symm,HS.out.stop ht (by have:=HL0.out;omega) HRq.out hsame,HR.out.2.2.2.push HOS0.out (HI.out.sub ht (by omega)) HE3.out (by rw[HR.out.1];exact HO3.out)⟩
       case measure=>simp[intOf];omega
     ·obtain rfl:t=n0:=by omega
      obtain⟨us,hus,hOS,_⟩:=HR.out.2.2.2;have HOS:Hid (∀m o,((wo.drewN m).alloc o).ownsRow w1.heap.size 22 1 (E A7 n7 c7) n7 us):=fun m o=>by have:=ao hOS (((zE wo).drewN m).alloc o);rw[HR.out.1]at this;exact this
      have HOS0:=zZ hOS;clear hOS;go_wp2_with fail;go_quiet (fail)
      go_wp2_with (at_builtin;go_loud (refine aF _ rfl (.tmp 42) (.tmp 48) 59 rfl w1.heap.size 22 iS _ 24 underlying59 hiS hy0 hy1 hy2 rfl _ n7 us rfl (HOS.out _ _) _ _ rfl (ac (heap_alloc_new (wo.drewN _) _) (i:=0) rfl) rfl (by omega) (by omega) (by have:=HEO.out.size;first|omega|(simp;omega)|(show w1.heap.size<=(World.alloc _ _).heap.size;rw[World.heap_alloc_size];show w1.heap.size<=wo.heap.size+1;omega)) ?_);intro v' w3 hown' hg';obtain⟨g',cap',rfl,_,_⟩:=di hown' (by omega);have HO3:=zZ hown';have HE3:=zZ (ab.grown ((HEO.out.drewN _).alloc _) hg' (fun k hk=>by have:=aq (HOS.out 0 (.cells #[] 3)) k hk;omega));clear hown' hg');go_roundw
      case rel=>exact⟨t,n7+1,cap',_,ls++[(cs.take t).drop k],by omega,by omega,rfl,rfl,by have:=HR.out.1;simp;omega,by rw[HR.out.2.1];exact (MC (by have:=HL1.out;omega) HR.out.2.2.1 ht (HS.out.runs (by have:=HL0.out;omega))).symm,Ok (by have:=HL0.out;omega),HR.out.2.2.2.push HOS0.out (HI.out.sub ht (by omega)) HE3.out (by rw[HR.out.1];exact HO3.out)⟩
      case measure=>simp[intOf];omega
   ·obtain rfl:k=n0:=by omega
    go_wp2_with fail;refine bodyPost_ret (v:=.tuple #[E A7 n7 c7,B D 0]) (by simp[results,results125,go_sem]) rfl ⟨_,ls,0,rfl,HR.out.2.2.2.isP hp1,HE.out.trans HR.out.2.2.2.choose_spec.2.2.1,fun h=>absurd (HL0.out.trans HL1.out.symm) h,fun _=>⟨by rw[HR.out.2.1,HL1.out],rfl⟩⟩
 ·have hne:((n0:Int)!=n1)=true:=by simp;omega
  go_enter func125,ntmps125
  go_wp2_with fail;refine bodyPost_ret (v:=.tuple #[E none 0 0,B D 1]) (by simp[results,results125,go_sem]) rfl ⟨_,[],1,rfl,bj.nil _ _ _ _,zE _,fun _=>⟨rfl,rfl⟩,fun h=>absurd h (by have:=HL0.out;have:=HL1.out;omega)⟩
def Mn(l:List Int):Nat->Nat
 |0=>0
 |k+1=>if l.getD (Mn l k) 0<l.getD k 0 then k else Mn l k
theorem Qn(l:List Int)(k:Nat):Mn l k<=k-1:=by
 induction k with
 |zero=>simp[Mn]
 |succ k ih=>unfold Mn;split<;>omega
theorem sS(h:l[k]?=some x):l.getD k 0=x:=by simp[List.getD,h]
theorem Pu(h:l[k]?=some x)(ho:o=Mn l k)(hy:l[o]?=some y)(hlt:y<x):k=Mn l (k+1):=by subst ho;rw[Mn,sS h,sS hy,if_pos hlt]
theorem Pq(h:l[k]?=some x)(ho:o=Mn l k)(hy:l[o]?=some y)(hlt:x<=y):o=Mn l (k+1):=by subst ho;rw[Mn,sS h,sS hy,if_neg (by omega)]
def MI(l:List Int)(lead:Int)(o k:Nat):Bool:=(List.range k).all fun i=>i==o||decide (l.getD i 0+lead<=l.getD o 0)
def Q6(l:List Int)(lead:Int):Bool:=MI l lead (Mn l l.length) l.length
theorem M9(l:List Int)(lead:Int)(o k:Nat):MI l lead o (k+1)=(MI l lead o k&&(k==o||decide (l.getD k 0+lead<=l.getD o 0))):=by unfold MI;rw[xP,List.all_append];simp
theorem M7{b:Bool}(hb:b=MI l lead o k)(h:l[k]?=some x)(hy:l[o]?=some y)(hk:k=o\/x+lead<=y):b=MI l lead o (k+1):=by rw[M9,<-hb,sS h,sS hy];rcases hk with rfl|hk<;>simp[*]
theorem Oc(h:l[k]?=some x)(hy:l[o]?=some y)(hk:k≠o)(hlt:y<x+lead):false=MI l lead o (k+1):=by
 rw[M9,sS h,sS hy];have:¬(x+lead<=y):=by omega
 simp[*]
def Ny(l:List Int):Int:=(Mn l l.length:Nat)
def Qj(l:List Int):Int:=l.getD (Mn l l.length) 0
theorem Qm(hl:l.length=n)(ha:a=Mn l n):(a:Int)=Ny l:=by subst hl;subst ha;rfl
theorem Qg(hl:l.length=n)(ha:a=Mn l n)(hy:l[a]?=some y):y=Qj l:=by subst hl;subst ha;exact (sS hy).symm
theorem Q0{t:Bool}(hl:l.length=n)(ha:a=Mn l n)(ht:t=MI l lead a n):t=Q6 l lead:=by subst hl;subst ha;exact ht
theorem Pv(hv:l.all fE=true)(h:l[k]?=some x):0<=x/\x<=9:=by have:=xS.1 hv x (zW h);simpa[fE] using this
theorem Ol(v:Value)(l:List Int)(lead:Int)(w:World)(h:ak p w v l)(hv:l.all fE=true)(h0:l≠[])(hl1:1<=lead)(hl2:lead<=9) :
  Calls prog 161 #[v,B D lead] w fun e w' =>e=.returned (.tuple #[B D (Ny l),B D (Qj l),.bool (Q6 l lead)])/\w=w':=by
 obtain⟨A,n,c,rfl,hnc,hc,hnn,HL⟩:=h.open_;have hn:0<n:=by have:=HL.out;have:=List.length_pos_iff.2 h0;omega
 have H:=zZ h;have HV:=zZ hv;obtain⟨b,off,x0,rfl,_,_⟩:=h.at_ hn;clear h hv h0;go_enter func161,ntmps161
 go_wp2
 go_loop [4,13] (fun o i=>∃k a:Nat,k<=n/\a<n/\i=B D k/\o=B D a/\Hid (a=Mn l k)) (fun _ i=>n-(intOf i).toNat)
 case atStart=>exact⟨0,0,xL _,hn,rfl,rfl,rfl⟩
 case round =>
  obtain⟨k,a,hk,ha,rfl,rfl,HA⟩:=hrel;by_cases hlt:k<n
  ·obtain⟨x,hcx,HX,hx1,hx2⟩:=H.out.cell_ hlt;obtain⟨y,hcy,HY,hy1,hy2⟩:=H.out.cell_ ha;go_wp2
   ·go_round
    case rel=>exact⟨k+1,k,by omega,by omega,by go_num,rfl,Pu HX.out HA.out HY.out (by assumption)⟩
    case measure=>simp[intOf];omega
   ·go_round
    case rel=>exact⟨k+1,a,by omega,by omega,by go_num,rfl,Pq HX.out HA.out HY.out (by omega)⟩
    case measure=>simp[intOf];omega
  ·obtain rfl:k=n:=by omega
   obtain⟨y,hcy,HY,hy1,hy2⟩:=H.out.cell_ ha;have hvy:=Pv HV.out HY.out;go_wp2
   go_loop [6,32] (fun s i=>∃(j:Nat) (t:Bool),j<=k/\i=B D j/\s=.bool t/\Hid (t=MI l lead a j)) (fun _ i=>k-(intOf i).toNat)
   case atStart=>exact⟨0,true,xL _,rfl,rfl,rfl⟩
   case round =>
    obtain⟨j,t,hj,rfl,rfl,HT⟩:=hrel;by_cases hlt':j<k
    ·obtain⟨x,hcx,HX,hx1,hx2⟩:=H.out.cell_ hlt';have hvx:=Pv HV.out HX.out;by_cases hja:j=a
     ·have hd:((j:Int)!=(a:Int))=false:=by simp[hja]
      have HJ:=zZ hja;clear hja;go_wp2
      go_round
      case rel=>exact⟨j+1,t,by omega,by go_num,rfl,M7 HT.out HX.out HY.out (.inl HJ.out)⟩
      case measure=>simp[intOf];omega
     ·have hd:((j:Int)!=(a:Int))=true:=by simp;omega
      have HJ:=zZ hja;clear hja;go_wp2
      ·go_round
       case rel=>exact⟨j+1,false,by omega,by go_num,rfl,Oc HX.out HY.out HJ.out (by omega)⟩
       case measure=>simp[intOf];omega
      ·go_round
       case rel=>exact⟨j+1,t,by omega,by go_num,rfl,M7 HT.out HX.out HY.out (.inr (by omega))⟩
       case measure=>simp[intOf];omega
    ·obtain rfl:j=k:=by omega
     go_wp2
     go_ret3
     exact⟨Qy (Qm HL.out HA.out) (Qg HL.out HA.out HY.out) (Q0 HL.out HA.out HT.out),rfl⟩
def Mw(l:List Int)(d:Int)(k:Nat):Nat:=(l.take k).countP (fun x=>decide (d<=x))
def Rd(l:List Int)(d:Int):Nat:=l.countP (fun x=>decide (d<=x))
theorem OY(ht:t=Mw l d k)(h:l[k]?=some x)(hx:d<=x):t+1=Mw l d (k+1):=by subst ht;unfold Mw;rw[ax h,List.countP_append];simp[List.countP_cons,hx]
theorem Ob(ht:t=Mw l d k)(h:l[k]?=some x)(hx:x<d):t=Mw l d (k+1):=by
 subst ht;unfold Mw;rw[ax h,List.countP_append];have:¬d<=x:=by omega
 simp[List.countP_cons,this]
theorem QS(hl:l.length=n)(ht:t=Mw l d n):t=Rd l d:=by subst ht;unfold Mw Rd;rw[bh hl]
def gJ(d f lead:Int)(l:List Int):Int :=
 if j5 d f lead=false\/l.length<2\/5<l.length\/l.all fE=false then 0
 else if Rd l d=1 then Ny l
 else if Rd l d=0 then (if Q6 l lead=true/\f<=Qj l then Ny l else -1)
 else if Q6 l lead=true then Ny l else -2
def Mi(d f lead:Int)(l:List Int):Int :=
 if j5 d f lead=false then 1 else if l.length<2\/5<l.length then 3 else if l.all fE=false then 2 else 0
def jm(t:Nat)(ld:Bool)(f mv mi:Int):Int:=if t=1 then mi else if t=0 then (if ld=true/\f<=mv then mi else -1) else if ld=true then mi else -2
section
variable {t:Nat} {ld:Bool} {f mv mi:Int}
theorem Rm(h:((t:Int)==1)=true):mi=jm t ld f mv mi:=by
 have:t=1:=by have:=beq_iff_eq.1 h;omega
 simp[jm,this]
theorem Rh(h:t=0):-1=jm t false f mv mi:=by simp[jm,h]
theorem Rf(h:((t:Int)==1)=false)(h0:¬t=0):-2=jm t false f mv mi:=by
 have:t≠1:=by have:=beq_eq_false_iff_ne.1 h;omega
 simp[jm,this,h0]
theorem Rb(h:t=0)(hf:f<=mv):mi=jm t true f mv mi:=by simp[jm,h,hf]
theorem Ra(h:t=0)(hf:mv<f):-1=jm t true f mv mi:=by
 have:¬f<=mv:=by omega
 simp[jm,h,this]
theorem Q7(h0:¬t=0):mi=jm t true f mv mi:=by simp[jm,h0]
end
theorem QU{f:Int}(h:j5 d f lead=true):1<=f/\f<=d/\d<=9/\1<=lead/\lead<=9:=by simpa[j5] using h
section
variable {d f lead:Int} {l:List Int} {n:Nat}
theorem QN(h:j5 d f lead=false):0=gJ d f lead l:=by simp[gJ,h]
theorem QQ(h:j5 d f lead=false):1=Mi d f lead l:=by simp[Mi,h]
theorem QP(hl:l.length=n)(hn:n<2\/5<n):0=gJ d f lead l:=by unfold gJ;rw[if_pos];omega
theorem QZ(h:j5 d f lead=true)(hl:l.length=n)(hn:n<2\/5<n):3=Mi d f lead l:=by unfold Mi;rw[if_neg (by simp[h]),if_pos (by omega)]
theorem QT(hv:l.all fE=false):0=gJ d f lead l:=by unfold gJ;rw[if_pos (by simp only[hv];simp)]
theorem Q4(h:j5 d f lead=true)(hl:l.length=n)(h2:2<=n)(h5:n<=5)(hv:l.all fE=false):2=Mi d f lead l:=by unfold Mi;rw[if_neg (by simp[h]),if_neg (by omega),if_pos hv]
theorem QL(h:j5 d f lead=true)(hl:l.length=n)(h2:2<=n)(h5:n<=5)(hv:l.all fE=true):0=Mi d f lead l:=by unfold Mi;rw[if_neg (by simp[h]),if_neg (by omega),if_neg (by simp[hv])]
theorem Rj(h:j5 d f lead=true)(hl:l.length=n)(h2:2<=n)(h5:n<=5)(hv:l.all fE=true):gJ d f lead l=jm (Rd l d) (Q6 l lead) f (Qj l) (Ny l):=by unfold gJ jm;rw[if_neg (by simp only[h,hv];simp;omega)]
end
theorem Pj(d f lead:Int)(v:Value)(l:List Int)(w:World)(h:ak p w v l) :
  Calls prog 126 #[.agg #[B D d,B D f,B D lead],v] w fun e w' =>e=.returned (.tuple #[B D (gJ d f lead l),B D (Mi d f lead l)])/\ab w w':=by
 obtain⟨A,n,c,rfl,hnc,hc,hnn,HL⟩:=h.open_;have H:=zZ h;clear h;cases hv:j5 d f lead
 ·have HV:=zZ hv;clear hv;go_enter func126,ntmps126
  go_wp2_with (go_at_call 43;refine (uk _ _ _ _).mono ?_;rintro e w1 ⟨rfl,hx1⟩;rw[HV.out]);go_ret2
  exact⟨NC (QN HV.out) (QQ HV.out),ab.trans ((zE _).alloc _) hx1⟩
 ·have HV:=zZ hv;clear hv;by_cases hn:n<2\/5<n
  ·go_enter func126,ntmps126
   go_wp2_with (go_at_call 43;refine (uk _ _ _ _).mono ?_;rintro e w1 ⟨rfl,hx1⟩;rw[HV.out]);all_goals (go_ret2;exact⟨NC (QP HL.out (by omega)) (QZ HV.out HL.out (by omega)),ab.trans ((zE _).alloc _) hx1⟩)
  ·have hn2:2<=n:=by omega
   have hn5:n<=5:=by omega
   clear hn;cases ha:l.all fE
   ·have HA:=zZ ha;clear ha;go_enter func126,ntmps126
    go_wp2_with (first
     |(go_at_call 43;refine (uk _ _ _ _).mono ?_;rintro e w1 ⟨rfl,hx1⟩;rw[HV.out])
     |(go_at_call 124;refine (BS _ l _ (H.out.ext (ab.trans ((zE _).alloc _) hx1))).mono ?_;rintro e w2 ⟨rfl,rfl⟩;rw[HA.out]))
    go_ret2
    exact⟨NC (QT HA.out) (Q4 HV.out HL.out hn2 hn5 HA.out),ab.trans ((zE _).alloc _) hx1⟩
   ·have HA:=zZ ha;clear ha;have hvd:=QU HV.out;go_enter func126,ntmps126
    go_wp2_with (first
     |(go_at_call 43;refine (uk _ _ _ _).mono ?_;rintro e w1 ⟨rfl,hx1⟩;rw[HV.out];have c0:=hx1.cell (a:=⟨w.heap.size,0,none⟩) (v:=B D d) (by simp);have c1:=hx1.cell (a:=⟨w.heap.size,1,none⟩) (v:=B D f) (by simp);have c2:=hx1.cell (a:=⟨w.heap.size,2,none⟩) (v:=B D lead) (by simp);have H1:=zZ (H.out.ext (ab.trans ((zE _).alloc _) hx1));have HE:=zZ (ab.trans ((zE _).alloc _) hx1);clear hx1)
     |(go_at_call 124;refine (BS _ l _ H1.out).mono ?_;rintro e w2 ⟨rfl,rfl⟩;rw[HA.out]))
    obtain⟨b,off,x0,rfl,_,_⟩:=H1.out.at_ (show 0<n by omega);go_loop [6,28] (fun s i=>∃k t:Nat,k<=n/\t<=k/\i=B D k/\s=B D t/\Hid (t=Mw l d k)) (fun _ i=>n-(intOf i).toNat)
    case atStart=>exact⟨0,0,xL _,zX _,rfl,rfl,by simp[Hid,Mw]⟩
    case round =>
     obtain⟨k,t,hk,htk,rfl,rfl,HT⟩:=hrel;by_cases hlt:k<n
     ·obtain⟨x,hcx,HX,hx1,hx2⟩:=H1.out.cell_ hlt;go_wp2
      ·go_round
       case rel=>exact⟨k+1,t+1,by omega,by omega,by go_num,by go_num,OY HT.out HX.out (by omega)⟩
       case measure=>simp[intOf];omega
      ·go_round
       case rel=>exact⟨k+1,t,by omega,by omega,by go_num,by go_num,Ob HT.out HX.out (by omega)⟩
       case measure=>simp[intOf];omega
     ·obtain rfl:k=n:=by omega
      have HD:=zZ (QS HL.out HT.out);have HJ:=zZ (Rj HV.out HL.out hn2 hn5 HA.out);cases hld:Q6 l lead;all_goals
       have HLD:=zZ hld;clear hld;rw[<-HD.out,HLD.out]at HJ;go_wp2_with (go_at_call 161;refine (Ol _ l _ _ H1.out HA.out (by intro e;have:=HL.out;subst e;simp at this;omega) (by omega) (by omega)).mono ?_;rintro e w2 ⟨rfl,rfl⟩;rw[HLD.out]);all_goals (go_ret2;refine⟨NC ?_ (QL HV.out HL.out hn2 hn5 HA.out),HE.out⟩;rw[HJ.out];first|exact Rm ‹_›|exact Rh ‹_›|exact Rf ‹_› ‹_›|exact Rb ‹_› ‹_›|exact Ra ‹_› ‹_›|exact Q7 ‹_›)
end Go.Proofs.YtpaidaphacoblaaGreatDoor

