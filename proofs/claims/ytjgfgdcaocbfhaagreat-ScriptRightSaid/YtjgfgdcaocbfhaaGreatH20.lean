import Derived.Test.YtjgfgdcaocbfhaaGreatH19
set_option linter.all false
set_option maxRecDepth 100000
set_option maxHeartbeats 0
namespace Go.Proofs.YtjgfgdcaocbfhaaGreat
open Go.Value renaming int→B
open Go.IntKind renaming i64→C
open Go.RowKit _root_.Go.Proofs.Tryz
variable {a i k n o p t:Nat} {w:World} {d f lead mi mv x y:Int} {cs l:List Int} {ld:Bool}
theorem ao.sub{b off c x y:Nat}(h:ao p w (.slice (some ⟨b,off,none⟩) n c) l)(hxy:x<y)(hy:y≤n):ao p w (.slice (some ⟨b,off+x,none⟩) (y-x) (y-x)) ((l.take y).drop x):=by
 have hl:=h.len;obtain⟨A',c',hv,h1,h2,h3,h5,h4⟩:=h;injection hv with ha hn hc;subst ha;subst hc;have hlk:((l.take y).drop x).length=y-x:=by rw[xS,zF];omega
 refine⟨_,y-x,by rw[hlk],by omega,by omega,by omega,fun z hz=>h5 z (wQ (wE hz)),fun i z hz=>?_⟩;rw[xB,yB]at hz;split at hz
 ·obtain⟨b',off',ha,hb,hcell⟩:=h4 _ z hz;injection ha with ha;injection ha with e1 e2;subst e1;subst e2;exact⟨b,off+x,rfl,hb,by rw[Nat.add_assoc];exact hcell⟩
 ·cases hz
theorem BI{fs:List eh}{a b:eh}(ha:fs[k+1]?=some a)(hb:fs[k]?=some b)(h:a.part≠b.part):fk fs (k+1):=by refine .inr fun a' b' ha' hb'=>?_;rw[ha]at ha';rw[Nat.add_sub_cancel,hb]at hb';injection ha' with ha';injection hb' with hb';subst ha';subst hb';exact h
theorem yu{fs:List eh}{a b:eh}(ha:fs[k+1]?=some a)(hb:fs[k]?=some b)(h:a.part=b.part):¬fk fs (k+1):=by
 rintro (h0|h0)
 ·omega
 ·exact h0 a b ha (by rw[Nat.add_sub_cancel];exact hb) h
def sk(fs:List eh)(f t:Nat)(x:Int):Prop:=∀k q,f≤k→k<t→fs[k]?=some q→q.part=x
theorem sk.runs{fs:List eh}{f:Nat}(h:sk fs f t x)(ht:t≤fs.length):∀k,f<k→k<t→¬fk fs k:=by
 intro k hk hkt;obtain⟨j,rfl⟩:∃j,k=j+1:=⟨k-1,by omega⟩
 have ha:fs[j+1]?=some fs[j+1]:=zW (by omega);have hb:fs[j]?=some fs[j]:=zW (by omega);exact yu ha hb ((h _ _ (by omega) hkt ha).trans (h _ _ (by omega) (by omega) hb).symm)
theorem sk.step{fs:List eh}{f:Nat}{q:eh}(h:sk fs f t x)(hq:fs[t]?=some q)(hx:q.part=x):sk fs f (t+1) x:=by
 intro k r hk hkt hr;rcases zV k t with h1|h1
 ·exact h k r hk h1 hr
 ·obtain rfl:k=t:=by omega
  rw[hq]at hr;injection hr with hr;subst hr;exact hx
theorem sk.stop{fs:List eh}{f:Nat}{q:eh}(h:sk fs f t x)(hft:f<t)(ht:t≤fs.length)(hq:fs[t]?=some q)(hx:q.part≠x):fk fs t:=by
 obtain⟨j,rfl⟩:∃j,t=j+1:=⟨t-1,by omega⟩
 have hb:fs[j]?=some fs[j]:=zW (by omega);exact BI hq hb (fun e=>hx (e.trans (h _ _ (by omega) (by omega) hb)))
theorem zo{fs:List eh}(h:fs.length≤k):fk fs k:=.inr fun a b ha=>by rw[yH h]at ha;cases ha
def ri(p base eS:Nat)(w1 w:World)(v:Value)(ls:List (List Int)):Prop :=
 ∃us:List Value,us.length=ls.length∧w.ownsRow base eS 1 v ls.length us∧ab w1 w∧∀(j:Nat) (u:Value) (l:List Int),us[j]?=some u→ls[j]?=some l→ao p w1 u l
theorem ri.isP{base eS:Nat}{w1:World}{v:Value}{ls:List (List Int)}(h:ri p base eS w1 w v ls)(hp:p<base):kL p w v ls:=by obtain⟨us,a,b,c,f⟩:=h;refine bg.of_own (e:=eS) (us.map fun u=>[u]) (by simp) (by decide) (by simpa using a) (by rw[Gt];exact b) hp ?_;intro k cs x hcs hx;simp only[zL,yI]at hcs;obtain⟨u,hu,rfl⟩:=hcs;exact⟨u,rfl,(f k u x hu hx).ext c⟩
theorem ri.push{base eS:Nat}{w1 w':World}{v v' u:Value}{ls:List (List Int)}{us:List Value}(h:ri p base eS w1 w v ls)(hus:w.ownsRow base eS 1 v ls.length us)(hu:ao p w1 u l)(hx:ab w1 w')(h':w'.ownsRow base eS 1 v' (ls.length+1) (us++[u])):ri p base eS w1 w' v' (ls++[l]):=by
 obtain⟨us0,a,b,c,f⟩:=h;obtain rfl:=ph b hus;refine⟨us0++[u],by simp[a],by simpa using h',hx,fun j z m hz hm=>?_⟩;rcases zV j ls.length with hj|hj
 ·rw[zH (by omega)]at hz;rw[zH hj]at hm;exact f j z m hz hm
 ·rw[yT (by omega)]at hz;rw[yT hj]at hm;have hj0:j-ls.length=0:=by
   have:=(zY.1 hm).1;simp at this;omega
  rw[a,hj0]at hz;rw[hj0]at hm;simp at hz hm;subst hz;subst hm;exact hu
theorem Ci(v0:Value)(fs:List eh)(v1:Value)(cs:List Int)(w:World)(hp:p<w.heap.size)(h0:GW p w v0 fs)(h1:ao p w v1 cs)(hl:cs.length≤1000) :
  Calls prog 110 #[v0,v1] w (E6 p w fs cs):=by
 obtain⟨A0,n0,c0,rfl,hnc0,hc0,hnn0,HL0⟩:=h0.open_;obtain⟨A1,n1,c1,rfl,hnc1,hc1,hnn1,HL1⟩:=h1.open_;obtain⟨iS,hiS,hy0,hy1,hy2⟩:=info_parts Tryz.infoS;have H0:=zZ h0;have H1:=zZ h1;have HL:=zZ hl;clear h0 h1 hl;by_cases hn:n0=n1
 ·subst hn;go_enter func110,ntmps110
  go_wp2_with fail;refine (C0 _ cs _ hp H1.out HL.out).mono ?_;rintro e w1 ⟨v2,rfl,hI,hE⟩;obtain⟨A2,n2,c2,rfl,hnc2,hc2,hnn2,HL2⟩:=hI.open_;obtain rfl:n0=n2:=HL1.out.symm.trans HL2.out;have HI:=zZ hI;have HE:=zZ hE;have HF:=zZ (H0.out.ext (rB.stab p) hE);have hp1:p<w1.heap.size:=zP hp hE.size;have hn1000:n0≤1000:=by have:=HL.out;have:=HL1.out;omega
  clear hI hE;go_wp2_with fail;go_loopw [7,8] (fun s7 s8 wr=>∃(k n7 c7:Nat) (A7:Option Addr) (ls:List (List Int)),k≤n0∧n7≤k∧s7=.slice A7 n7 c7∧s8=B C k ∧
    Hid (ls.length=n7∧ls=dY fs cs k∧fk fs k∧ri p w1.heap.size 22 w1 wr (.slice A7 n7 c7) ls)) (fun _ i _=>n0-(intOf i).toNat)
  case atStart=>exact⟨0,0,0,none,[],by omega,by omega,rfl,rfl,rfl,rfl,.inl rfl,[],rfl,yW _ _ _ _,zE _,fun j u l hu=>by simp at hu⟩
  case round =>
   obtain⟨wo,rfl⟩:=nm (wr:World);obtain⟨k,n7,c7,A7,ls,hk,hn7,rfl,rfl,HR⟩:=hrel;by_cases hlt:k<n0
   ·obtain⟨b,off,cs0,q0,rfl,_⟩:=H0.out.at_ hlt;obtain⟨b2,off2,x2,rfl,_⟩:=HI.out.at_ hlt;have hEo:ab w1 wo:=HR.out.2.2.2.choose_spec.2.2.1;have HEO:=zZ hEo;have HFO:=zZ (HF.out.ext (rB.stab p) hEo);obtain⟨q,cq,_,HQ,hq1,hq2⟩:=HFO.out.fld hlt;clear hEo;go_wp2_with fail;go_loopw [9] (fun s9 wr=>∃(t m:Nat),k<t∧t≤n0∧s9=B C t∧wr=wo.drewN m∧Hid (sk fs k t q.part)) (fun i _=>n0-(intOf i).toNat)
    case atStart=>exact⟨k+1,0,by omega,by omega,by go_num,rfl,fun j r hj hj' hr=>by
     obtain rfl:j=k:=by omega
     rw[HQ.out]at hr;injection hr with hr;rw[hr]⟩
    case round =>
     obtain⟨t,m,ht,ht',rfl,rfl,HS⟩:=hrel;by_cases htn:t<n0
     ·obtain⟨r,cr,_,HRq,hr1,hr2⟩:=HFO.out.fld htn;by_cases hsame:r.part=q.part
      ·have hb1:(r.part==q.part)=true:=by simp[hsame]
       go_wp2_with fail;go_quiet (fail)
       go_wp2_with fail;go_roundw
       case rel=>exact⟨t+1,_,by omega,by omega,by go_num,rfl,HS.out.step HRq.out hsame⟩
       case measure=>simp[intOf];omega
      ·have hb1:(r.part==q.part)=false:=by simp[hsame]
       obtain⟨us,hus,hOS,_⟩:=HR.out.2.2.2;have HOS:Hid (∀m o,((wo.drewN m).alloc o).ownsRow w1.heap.size 22 1 (.slice A7 n7 c7) n7 us):=fun m o=>by have:=ac hOS (((zE wo).drewN m).alloc o);rw[HR.out.1]at this;exact this
       have HOS0:=zZ hOS;clear hOS;go_wp2_with fail;go_quiet (fail)
       go_wp2_with (at_builtin;go_loud (refine al _ rfl (.tmp 42) (.tmp 48) 90 rfl w1.heap.size 22 iS _ 24 underlying90 hiS hy0 hy1 hy2 rfl _ n7 us rfl (HOS.out _ _) _ _ rfl (ak (heap_alloc_new (wo.drewN _) _) (i:=0) rfl) rfl (by omega) (by omega) (by have:=HEO.out.size;first|omega|(simp;omega)|(show w1.heap.size≤(World.alloc _ _).heap.size;rw[World.heap_alloc_size];show w1.heap.size≤wo.heap.size+1;omega)) ?_);intro v' w3 hown' hg';obtain⟨g',cap',rfl,_,_⟩:=aQ hown' (by omega);have HO3:=zZ hown';have HE3:=zZ (ab.grown ((HEO.out.drewN _).alloc _) hg' (fun k hk=>by have:=ar (HOS.out 0 (.cells #[] 3)) k hk;omega));clear hown' hg');go_roundw
       case rel=>exact⟨t,n7+1,cap',_,ls++[(cs.take t).drop k],by omega,by omega,rfl,rfl,by have:=HR.out.1;simp;omega,by rw[HR.out.2.1];exact (kE (by have:=HL1.out;omega) HR.out.2.2.1 ht (HS.out.runs (by have:=HL0.out;omega))).symm,HS.out.stop ht (by have:=HL0.out;omega) HRq.out hsame,HR.out.2.2.2.push HOS0.out (HI.out.sub ht (by omega)) HE3.out (by rw[HR.out.1];exact HO3.out)⟩
       case measure=>simp[intOf];omega
     ·obtain rfl:t=n0:=by omega
      obtain⟨us,hus,hOS,_⟩:=HR.out.2.2.2;have HOS:Hid (∀m o,((wo.drewN m).alloc o).ownsRow w1.heap.size 22 1 (.slice A7 n7 c7) n7 us):=fun m o=>by have:=ac hOS (((zE wo).drewN m).alloc o);rw[HR.out.1]at this;exact this
      have HOS0:=zZ hOS;clear hOS;go_wp2_with fail;go_quiet (fail)
      go_wp2_with (at_builtin;go_loud (refine al _ rfl (.tmp 42) (.tmp 48) 90 rfl w1.heap.size 22 iS _ 24 underlying90 hiS hy0 hy1 hy2 rfl _ n7 us rfl (HOS.out _ _) _ _ rfl (ak (heap_alloc_new (wo.drewN _) _) (i:=0) rfl) rfl (by omega) (by omega) (by have:=HEO.out.size;first|omega|(simp;omega)|(show w1.heap.size≤(World.alloc _ _).heap.size;rw[World.heap_alloc_size];show w1.heap.size≤wo.heap.size+1;omega)) ?_);intro v' w3 hown' hg';obtain⟨g',cap',rfl,_,_⟩:=aQ hown' (by omega);have HO3:=zZ hown';have HE3:=zZ (ab.grown ((HEO.out.drewN _).alloc _) hg' (fun k hk=>by have:=ar (HOS.out 0 (.cells #[] 3)) k hk;omega));clear hown' hg');go_roundw
      case rel=>exact⟨t,n7+1,cap',_,ls++[(cs.take t).drop k],by omega,by omega,rfl,rfl,by have:=HR.out.1;simp;omega,by rw[HR.out.2.1];exact (kE (by have:=HL1.out;omega) HR.out.2.2.1 ht (HS.out.runs (by have:=HL0.out;omega))).symm,zo (by have:=HL0.out;omega),HR.out.2.2.2.push HOS0.out (HI.out.sub ht (by omega)) HE3.out (by rw[HR.out.1];exact HO3.out)⟩
      case measure=>simp[intOf];omega
   ·obtain rfl:k=n0:=by omega
    go_wp2_with fail;refine bodyPost_ret (v:=.tuple #[.slice A7 n7 c7,B C 0]) (by simp[results,results110,go_sem]) rfl ⟨_,ls,0,rfl,HR.out.2.2.2.isP hp1,HE.out.trans HR.out.2.2.2.choose_spec.2.2.1,fun h=>absurd (HL0.out.trans HL1.out.symm) h,fun _=>⟨by rw[HR.out.2.1,HL1.out],rfl⟩⟩
 ·have hne:((n0:Int)!=n1)=true:=by simp;omega
  go_enter func110,ntmps110
  go_wp2_with fail;refine bodyPost_ret (v:=.tuple #[.slice none 0 0,B C 1]) (by simp[results,results110,go_sem]) rfl ⟨_,[],1,rfl,bg.nil _ _ _ _,zE _,fun _=>⟨rfl,rfl⟩,fun h=>absurd h (by have:=HL0.out;have:=HL1.out;omega)⟩
def fu(l:List Int):Nat→Nat
 |0=>0
 |k+1=>if l.getD (fu l k) 0<l.getD k 0 then k else fu l k
theorem Be(l:List Int)(k:Nat):fu l k≤k-1:=by
 induction k with
 |zero=>simp[fu]
 |succ k ih=>unfold fu;split<;>omega
theorem fq(h:l[k]?=some x):l.getD k 0=x:=by simp[List.getD,h]
theorem uf(h:l[k]?=some x)(ho:o=fu l k)(hy:l[o]?=some y)(hlt:y<x):k=fu l (k+1):=by subst ho;rw[fu,fq h,fq hy,if_pos hlt]
theorem qA(h:l[k]?=some x)(ho:o=fu l k)(hy:l[o]?=some y)(hlt:x≤y):o=fu l (k+1):=by subst ho;rw[fu,fq h,fq hy,if_neg (by omega)]
theorem EY(l:List Int):0=fu l 1:=by simp[fu]
def iq(l:List Int)(lead:Int)(o k:Nat):Bool:=(List.range k).all fun i=>i==o||decide (l.getD i 0+lead≤l.getD o 0)
def Gq(l:List Int)(lead:Int):Bool:=iq l lead (fu l l.length) l.length
theorem pa(l:List Int)(lead:Int)(o k:Nat):iq l lead o (k+1)=(iq l lead o k&&(k==o||decide (l.getD k 0+lead≤l.getD o 0))):=by unfold iq;rw[yC,List.all_append];simp
theorem EA(h:k≤n)(hn:iq l lead o k=false):iq l lead o n=false:=by
 unfold iq at *
 rw[xR]at *;obtain⟨i,hi,h'⟩:=hn;exact⟨i,by simp at *;omega,h'⟩
theorem i5{b:Bool}(hb:b=iq l lead o k)(h:l[k]?=some x)(hy:l[o]?=some y)(hk:k=o∨x+lead≤y):b=iq l lead o (k+1):=by rw[pa,←hb,fq h,fq hy];rcases hk with rfl|hk<;>simp[*]
theorem pS(h:l[k]?=some x)(hy:l[o]?=some y)(hk:k≠o)(hlt:y<x+lead):false=iq l lead o (k+1):=by
 rw[pa,fq h,fq hy];have:¬(x+lead≤y):=by omega
 simp[*]
def pt(l:List Int):Int:=(fu l l.length:Nat)
def mq(l:List Int):Int:=l.getD (fu l l.length) 0
theorem rE(hl:l.length=n)(ha:a=fu l n):(a:Int)=pt l:=by subst hl;subst ha;rfl
theorem Fl(hl:l.length=n)(ha:a=fu l n)(hy:l[a]?=some y):y=mq l:=by subst hl;subst ha;exact (fq hy).symm
theorem zp{t:Bool}(hl:l.length=n)(ha:a=fu l n)(ht:t=iq l lead a n):t=Gq l lead:=by subst hl;subst ha;exact ht
theorem r5(hv:l.all bd=true)(h:l[k]?=some x):0≤x∧x≤9:=by have:=yS.1 hv x (zU h);simpa[bd] using this
theorem zi(v:Value)(l:List Int)(lead:Int)(w:World)(h:ao p w v l)(hv:l.all bd=true)(h0:l≠[])(hl1:1≤lead)(hl2:lead≤9) :
  Calls prog 137 #[v,B C lead] w fun e w' =>e=.returned (.tuple #[B C (pt l),B C (mq l),.bool (Gq l lead)])∧w=w':=by
 obtain⟨A,n,c,rfl,hnc,hc,hnn,HL⟩:=h.open_;have hn:0<n:=by have:=HL.out;have:=List.length_pos_iff.2 h0;omega
 have H:=zZ h;have HV:=zZ hv;obtain⟨b,off,x0,rfl,_,_⟩:=h.at_ hn;clear h hv h0;go_enter func137,ntmps137
 go_wp2
 go_loop [4,13] (fun o i=>∃k a:Nat,k≤n∧a<n∧i=B C k∧o=B C a∧Hid (a=fu l k)) (fun _ i=>n-(intOf i).toNat)
 case atStart=>exact⟨0,0,yK _,hn,rfl,rfl,rfl⟩
 case round =>
  obtain⟨k,a,hk,ha,rfl,rfl,HA⟩:=hrel;by_cases hlt:k<n
  ·obtain⟨x,hcx,HX,hx1,hx2⟩:=H.out.cell_ hlt;obtain⟨y,hcy,HY,hy1,hy2⟩:=H.out.cell_ ha;go_wp2
   ·go_round
    case rel=>exact⟨k+1,k,by omega,by omega,by go_num,rfl,uf HX.out HA.out HY.out (by assumption)⟩
    case measure=>simp[intOf];omega
   ·go_round
    case rel=>exact⟨k+1,a,by omega,by omega,by go_num,rfl,qA HX.out HA.out HY.out (by omega)⟩
    case measure=>simp[intOf];omega
  ·obtain rfl:k=n:=by omega
   obtain⟨y,hcy,HY,hy1,hy2⟩:=H.out.cell_ ha;have hvy:=r5 HV.out HY.out;go_wp2
   go_loop [6,32] (fun s i=>∃(j:Nat) (t:Bool),j≤k∧i=B C j∧s=.bool t∧Hid (t=iq l lead a j)) (fun _ i=>k-(intOf i).toNat)
   case atStart=>exact⟨0,true,yK _,rfl,rfl,rfl⟩
   case round =>
    obtain⟨j,t,hj,rfl,rfl,HT⟩:=hrel;by_cases hlt':j<k
    ·obtain⟨x,hcx,HX,hx1,hx2⟩:=H.out.cell_ hlt';have hvx:=r5 HV.out HX.out;by_cases hja:j=a
     ·have hd:((j:Int)!=(a:Int))=false:=by simp[hja]
      have HJ:=zZ hja;clear hja;go_wp2
      go_round
      case rel=>exact⟨j+1,t,by omega,by go_num,rfl,i5 HT.out HX.out HY.out (.inl HJ.out)⟩
      case measure=>simp[intOf];omega
     ·have hd:((j:Int)!=(a:Int))=true:=by simp;omega
      have HJ:=zZ hja;clear hja;go_wp2
      ·go_round
       case rel=>exact⟨j+1,false,by omega,by go_num,rfl,pS HX.out HY.out HJ.out (by omega)⟩
       case measure=>simp[intOf];omega
      ·go_round
       case rel=>exact⟨j+1,t,by omega,by go_num,rfl,i5 HT.out HX.out HY.out (.inr (by omega))⟩
       case measure=>simp[intOf];omega
    ·obtain rfl:j=k:=by omega
     go_wp2
     go_ret3
     exact⟨Gh (rE HL.out HA.out) (Fl HL.out HA.out HY.out) (zp HL.out HA.out HT.out),rfl⟩
theorem fT(v:Value)(l:List Int)(lead:Int)(w:World)(h:ao p w v l)(hv:l.all bd=true)(h0:l≠[])(hl1:1≤lead)(hl2:lead≤9) :
  Calls prog 138 #[v,B C lead] w fun e w' =>e=.returned (.tuple #[B C (pt l),.bool (Gq l lead)])∧∃m,w'=w.drewN m:=by
 obtain⟨A,n,c,rfl,hnc,hc,hnn,HL⟩:=h.open_;have hn:0<n:=by have:=HL.out;have:=List.length_pos_iff.2 h0;omega
 have H:=zZ h;have HV:=zZ hv;obtain⟨b,off,x0,rfl,_,_⟩:=h.at_ hn;clear h hv h0;go_enter func138,ntmps138
 go_wp2
 go_loopw [6,7] (fun o i wr=>∃k a m:Nat,1≤k∧k≤n∧a<n∧i=B C k∧o=B C a∧Hid (a=fu l k)∧wr=w.drewN m) (fun _ i _=>n-(intOf i).toNat)
 case atStart=>exact⟨1,0,0,by omega,by omega,hn,rfl,rfl,EY l,rfl⟩
 case round =>
  obtain⟨k,a,m,hk1,hk,ha,rfl,rfl,HA,rfl⟩:=hrel;by_cases hlt:k<n
  ·obtain⟨x,hcx,HX,hx1,hx2⟩:=H.out.cell_ hlt;obtain⟨y,hcy,HY,hy1,hy2⟩:=H.out.cell_ ha;go_wp2
   go_quiet (fail)
   go_wp2
   ·go_roundw
    case rel=>exact⟨k+1,k,_,by omega,by omega,by omega,by go_num,rfl,uf HX.out HA.out HY.out (by assumption),rfl⟩
    case measure=>simp[intOf];omega
   ·go_roundw
    case rel=>exact⟨k+1,a,_,by omega,by omega,by omega,by go_num,rfl,qA HX.out HA.out HY.out (by omega),rfl⟩
    case measure=>simp[intOf];omega
  ·obtain rfl:k=n:=by omega
   obtain⟨y,hcy,HY,hy1,hy2⟩:=H.out.cell_ ha;have hvy:=r5 HV.out HY.out;go_wp2
   go_loopw [8] (fun i wr=>∃(j m:Nat),j≤k∧i=B C j∧Hid (true=iq l lead a j)∧wr=w.drewN m) (fun i _=>k-(intOf i).toNat)
   case atStart=>exact⟨0,m,yK _,rfl,rfl,rfl⟩
   case round =>
    obtain⟨j,m,hj,rfl,HT,rfl⟩:=hrel;by_cases hlt':j<k
    ·obtain⟨x,hcx,HX,hx1,hx2⟩:=H.out.cell_ hlt';have hvx:=r5 HV.out HX.out;by_cases hja:j=a
     ·have hd:((j:Int)!=(a:Int))=false:=by simp[hja]
      have HJ:=zZ hja;clear hja;go_wp2
      go_quiet (fail)
      go_wp2
      go_roundw
      case rel=>exact⟨j+1,_,by omega,by go_num,i5 HT.out HX.out HY.out (.inl HJ.out),rfl⟩
      case measure=>simp[intOf];omega
     ·have hd:((j:Int)!=(a:Int))=true:=by simp;omega
      have HJ:=zZ hja;clear hja;have hwr:IntKind.i64.wrap (y-lead)=y-lead:=yQ _ (by omega);go_wp2
      go_quiet (fail)
      go_wp2
      ·go_ret2
       exact⟨Ep (rE HL.out HA.out) (zp HL.out HA.out (EA (k:=j+1) (by omega) (pS HX.out HY.out HJ.out (by omega)).symm).symm),_,World.drewN_drewN _ _ _⟩
      ·go_roundw
       case rel=>exact⟨j+1,_,by omega,by go_num,i5 HT.out HX.out HY.out (.inr (by omega)),rfl⟩
       case measure=>simp[intOf];omega
    ·obtain rfl:j=k:=by omega
     go_wp2
     go_ret2
     exact⟨Ep (rE HL.out HA.out) (zp HL.out HA.out HT.out),_,rfl⟩
def ja(l:List Int)(d:Int)(k:Nat):Nat:=(l.take k).countP (fun x=>decide (d≤x))
def Hh(l:List Int)(d:Int):Nat:=l.countP (fun x=>decide (d≤x))
theorem qW(ht:t=ja l d k)(h:l[k]?=some x)(hx:d≤x):t+1=ja l d (k+1):=by subst ht;unfold ja;rw[ag h,List.countP_append];simp[List.countP_cons,hx]
theorem oe(ht:t=ja l d k)(h:l[k]?=some x)(hx:x<d):t=ja l d (k+1):=by
 subst ht;unfold ja;rw[ag h,List.countP_append];have:¬d≤x:=by omega
 simp[List.countP_cons,this]
theorem EG(hl:l.length=n)(ht:t=ja l d n):t=Hh l d:=by subst ht;unfold ja Hh;rw[aD hl]
def bH(d f lead:Int)(l:List Int):Int :=
 if dp d f lead=false∨l.length<2∨5<l.length∨l.all bd=false then 0
 else if Hh l d=1 then pt l
 else if Hh l d=0 then (if Gq l lead=true∧f≤mq l then pt l else -1)
 else if Gq l lead=true then pt l else -2
def hN(d f lead:Int)(l:List Int):Int :=
 if dp d f lead=false then 1 else if l.length<2∨5<l.length then 3 else if l.all bd=false then 2 else 0
def jm(t:Nat)(ld:Bool)(f mv mi:Int):Int:=if t=1 then mi else if t=0 then (if ld=true∧f≤mv then mi else -1) else if ld=true then mi else -2
section
variable {t:Nat} {ld:Bool} {f mv mi:Int}
theorem IF(h:((t:Int)==1)=true):mi=jm t ld f mv mi:=by
 have:t=1:=by have:=beq_iff_eq.1 h;omega
 simp[jm,this]
theorem Ia(h:t=0):-1=jm t false f mv mi:=by simp[jm,h]
theorem Hu(h:((t:Int)==1)=false)(h0:¬t=0):-2=jm t false f mv mi:=by
 have:t≠1:=by have:=beq_eq_false_iff_ne.1 h;omega
 simp[jm,this,h0]
theorem Ii(h:t=0)(hf:f≤mv):mi=jm t true f mv mi:=by simp[jm,h,hf]
theorem Ht(h:t=0)(hf:mv<f):-1=jm t true f mv mi:=by
 have:¬f≤mv:=by omega
 simp[jm,h,this]
theorem Il(h0:¬t=0):mi=jm t true f mv mi:=by simp[jm,h0]
end
theorem Dq(h:dp d f lead=true):1≤f∧f≤d∧d≤9∧1≤lead∧lead≤9:=by simpa[dp] using h
section
variable {d f lead:Int} {l:List Int} {n:Nat}
theorem DB(h:dp d f lead=false):0=bH d f lead l:=by simp[bH,h]
theorem Fb(h:dp d f lead=false):1=hN d f lead l:=by simp[hN,h]
theorem DU(hl:l.length=n)(hn:n<2∨5<n):0=bH d f lead l:=by unfold bH;rw[if_pos];omega
theorem Ey(h:dp d f lead=true)(hl:l.length=n)(hn:n<2∨5<n):3=hN d f lead l:=by unfold hN;rw[if_neg (by simp[h]),if_pos (by omega)]
theorem Ek(hv:l.all bd=false):0=bH d f lead l:=by unfold bH;rw[if_pos (by simp only[hv];simp)]
theorem EX(h:dp d f lead=true)(hl:l.length=n)(h2:2≤n)(h5:n≤5)(hv:l.all bd=false):2=hN d f lead l:=by unfold hN;rw[if_neg (by simp[h]),if_neg (by omega),if_pos hv]
theorem qQ(h:dp d f lead=true)(hl:l.length=n)(h2:2≤n)(h5:n≤5)(hv:l.all bd=true):0=hN d f lead l:=by unfold hN;rw[if_neg (by simp[h]),if_neg (by omega),if_neg (by simp[hv])]
theorem Gw(h:dp d f lead=true)(hl:l.length=n)(h2:2≤n)(h5:n≤5)(hv:l.all bd=true):bH d f lead l=jm (Hh l d) (Gq l lead) f (mq l) (pt l):=by unfold bH jm;rw[if_neg (by simp only[h,hv];simp;omega)]
end
theorem F3(l:List Int):∀k i,i<k→l.getD i 0≤l.getD (fu l k) 0:=by
 intro k;induction k with
 |zero=>intro i hi;omega
 |succ k ih =>
  intro i hi;unfold fu;rcases zV i k with h|h
  ·have:=ih i h;split<;>omega
  ·obtain rfl:i=k:=by omega
   split<;>omega
theorem Ge(h:l[i]?=some x):x≤mq l:=by have hi:=(zY.1 h).1;have:=F3 l l.length i hi;rw[fq h]at this;exact this
theorem D4(h:0<Hh l d):d≤mq l:=by obtain⟨x,hx,hd⟩:=List.countP_pos_iff.1 h;obtain⟨i,hi⟩:=yZ hx;have:=Ge hi;simp at hd;omega
theorem CJ(d f lead:Int)(v:Value)(l:List Int)(w:World)(h:ao p w v l) :
  Calls prog 111 #[.agg #[B C d,B C f,B C lead],v] w fun e w' =>e=.returned (.tuple #[B C (bH d f lead l),B C (hN d f lead l)])∧ab w w':=by
 obtain⟨A,n,c,rfl,hnc,hc,hnn,HL⟩:=h.open_;have H:=zZ h;clear h;cases hv:dp d f lead
 ·have HV:=zZ hv;clear hv;go_enter func111,ntmps111
  go_wp2_with (go_at_call 38;refine (fm _ _ _ _).mono ?_;rintro e w1 ⟨rfl,hx1⟩;rw[HV.out]);go_ret2
  exact⟨gw (DB HV.out) (Fb HV.out),ab.trans ((zE _).alloc _) hx1⟩
 ·have HV:=zZ hv;clear hv;by_cases hn:n<2∨5<n
  ·go_enter func111,ntmps111
   go_wp2_with (go_at_call 38;refine (fm _ _ _ _).mono ?_;rintro e w1 ⟨rfl,hx1⟩;rw[HV.out]);all_goals (go_ret2;exact⟨gw (DU HL.out (by omega)) (Ey HV.out HL.out (by omega)),ab.trans ((zE _).alloc _) hx1⟩)
  ·have hn2:2≤n:=by omega
   have hn5:n≤5:=by omega
   clear hn;cases ha:l.all bd
   ·have HA:=zZ ha;clear ha;go_enter func111,ntmps111
    go_wp2_with (first
     |(go_at_call 38;refine (fm _ _ _ _).mono ?_;rintro e w1 ⟨rfl,hx1⟩;rw[HV.out])
     |(go_at_call 109;refine (hJ _ l _ (H.out.ext (ab.trans ((zE _).alloc _) hx1))).mono ?_;rintro e w2 ⟨rfl,rfl⟩;rw[HA.out]))
    go_ret2
    exact⟨gw (Ek HA.out) (EX HV.out HL.out hn2 hn5 HA.out),ab.trans ((zE _).alloc _) hx1⟩
   ·have HA:=zZ ha;clear ha;have hvd:=Dq HV.out;go_enter func111,ntmps111
    go_wp2_with (first
     |(go_at_call 38;refine (fm _ _ _ _).mono ?_;rintro e w1 ⟨rfl,hx1⟩;rw[HV.out];have c0:=hx1.cell (a:=⟨w.heap.size,0,none⟩) (v:=B C d) (by simp);have c1:=hx1.cell (a:=⟨w.heap.size,1,none⟩) (v:=B C f) (by simp);have c2:=hx1.cell (a:=⟨w.heap.size,2,none⟩) (v:=B C lead) (by simp);have H1:=zZ (H.out.ext (ab.trans ((zE _).alloc _) hx1));have HE:=zZ (ab.trans ((zE _).alloc _) hx1);clear hx1)
     |(go_at_call 109;refine (hJ _ l _ H1.out).mono ?_;rintro e w2 ⟨rfl,rfl⟩;rw[HA.out]))
    obtain⟨b,off,x0,rfl,_,_⟩:=H1.out.at_ (show 0<n by omega);go_loop [6,28] (fun s i=>∃k t:Nat,k≤n∧t≤k∧i=B C k∧s=B C t∧Hid (t=ja l d k)) (fun _ i=>n-(intOf i).toNat)
    case atStart=>exact⟨0,0,yK _,zX _,rfl,rfl,by simp[Hid,ja]⟩
    case round =>
     obtain⟨k,t,hk,htk,rfl,rfl,HT⟩:=hrel;by_cases hlt:k<n
     ·obtain⟨x,hcx,HX,hx1,hx2⟩:=H1.out.cell_ hlt;go_wp2
      ·go_round
       case rel=>exact⟨k+1,t+1,by omega,by omega,by go_num,by go_num,qW HT.out HX.out (by omega)⟩
       case measure=>simp[intOf];omega
      ·go_round
       case rel=>exact⟨k+1,t,by omega,by omega,by go_num,by go_num,oe HT.out HX.out (by omega)⟩
       case measure=>simp[intOf];omega
     ·obtain rfl:k=n:=by omega
      have HD:=zZ (EG HL.out HT.out);have HJ:=zZ (Gw HV.out HL.out hn2 hn5 HA.out);cases hld:Gq l lead;all_goals
       have HLD:=zZ hld;clear hld;rw[←HD.out,HLD.out]at HJ;go_wp2_with (go_at_call 137;refine (zi _ l _ _ H1.out HA.out (by intro e;have:=HL.out;subst e;simp at this;omega) (by omega) (by omega)).mono ?_;rintro e w2 ⟨rfl,rfl⟩;rw[HLD.out]);all_goals (go_ret2;refine⟨gw ?_ (qQ HV.out HL.out hn2 hn5 HA.out),HE.out⟩;rw[HJ.out];first|exact IF ‹_›|exact Ia ‹_›|exact Hu ‹_› ‹_›|exact Ii ‹_› ‹_›|exact Ht ‹_› ‹_›|exact Il ‹_›)
theorem IA(h:t=1):mi=jm t ld f mv mi:=by simp[jm,h]
theorem ID(hf:f≤mv):mi=jm t true f mv mi:=by
 unfold jm;split
 ·rfl
 ·split<;>simp[hf]
theorem Hx(h:1<t)(hf:0<t→f≤mv)(hl:ld=false∨mv<f):-2=jm t ld f mv mi:=by
 have:=hf (by omega);obtain rfl:ld=false:=by rcases hl with h|h;exact h;omega
 unfold jm;rw[if_neg (by omega),if_neg (by omega)];simp
theorem Ie(h:t≤1)(h1:t≠1)(hl:ld=false∨mv<f):-1=jm t ld f mv mi:=by
 obtain rfl:t=0:=by omega
 unfold jm;rw[if_neg (by omega),if_pos rfl,if_neg];rintro⟨ha,hb⟩;rcases hl with h|h
 ·simp[h]at ha
 ·omega
theorem Fc(hl:l.length=n)(hn:0<n):∃a:Nat,a<n∧Hid (pt l=a)∧Hid (l[a]?=some (mq l)):=by
 have:=Be l l.length;have h:fu l l.length<l.length:=by omega
 refine⟨fu l l.length,by omega,rfl,?_⟩;show l[fu l l.length]?=some (mq l)
 rw[zW h];unfold mq;simp[h]
theorem wn(d f lead:Int)(v:Value)(l:List Int)(w:World)(h:ao p w v l) :
  Calls prog 112 #[.agg #[B C d,B C f,B C lead],v] w fun e w' =>e=.returned (.tuple #[B C (bH d f lead l),B C (hN d f lead l)])∧ab w w':=by
 obtain⟨A,n,c,rfl,hnc,hc,hnn,HL⟩:=h.open_;have H:=zZ h;clear h;cases hv:dp d f lead
 ·have HV:=zZ hv;clear hv;go_enter func112,ntmps112
  go_wp2_with (go_at_call 41;refine (ey _ _ _ _).mono ?_;rintro e w1 ⟨rfl,hx1⟩;rw[HV.out]);go_ret2
  exact⟨gw (DB HV.out) (Fb HV.out),ab.trans ((zE _).alloc _) hx1⟩
 ·have HV:=zZ hv;clear hv;by_cases hn:n<2∨5<n
  ·go_enter func112,ntmps112
   go_wp2_with (go_at_call 41;refine (ey _ _ _ _).mono ?_;rintro e w1 ⟨rfl,hx1⟩;rw[HV.out]);all_goals (go_ret2;exact⟨gw (DU HL.out (by omega)) (Ey HV.out HL.out (by omega)),ab.trans ((zE _).alloc _) hx1⟩)
  ·have hn2:2≤n:=by omega
   have hn5:n≤5:=by omega
   clear hn;cases ha:l.all bd
   ·have HA:=zZ ha;clear ha;go_enter func112,ntmps112
    go_wp2_with (first
     |(go_at_call 41;refine (ey _ _ _ _).mono ?_;rintro e w1 ⟨rfl,hx1⟩;rw[HV.out])
     |(go_at_call 98;refine (lL _ l _ (H.out.ext (ab.trans ((zE _).alloc _) hx1))).mono ?_;rintro e w2 ⟨rfl,rfl⟩;rw[HA.out]))
    go_ret2
    exact⟨gw (Ek HA.out) (EX HV.out HL.out hn2 hn5 HA.out),ab.trans ((zE _).alloc _) hx1⟩
   ·have HA:=zZ ha;clear ha;have hvd:=Dq HV.out;go_enter func112,ntmps112
    go_wp2_with (first
     |(go_at_call 41;refine (ey _ _ _ _).mono ?_;rintro e w1 ⟨rfl,hx1⟩;rw[HV.out];have c0:=hx1.cell (a:=⟨w.heap.size,0,none⟩) (v:=B C d) (by simp);have c1:=hx1.cell (a:=⟨w.heap.size,1,none⟩) (v:=B C f) (by simp);have c2:=hx1.cell (a:=⟨w.heap.size,2,none⟩) (v:=B C lead) (by simp);have H1:=zZ (H.out.ext (ab.trans ((zE _).alloc _) hx1));have HE:=zZ (ab.trans ((zE _).alloc _) hx1);clear hx1)
     |(go_at_call 98;refine (lL _ l _ H1.out).mono ?_;rintro e w2 ⟨rfl,rfl⟩;rw[HA.out]))
    obtain⟨b,off,x0,rfl,_,_⟩:=H1.out.at_ (show 0<n by omega);go_loopw [6,7] (fun s i wr=>∃k t m:Nat,k≤n∧t≤k∧i=B C k∧s=B C t∧Hid (t=ja l d k)∧wr=w1.drewN m) (fun _ i _=>n-(intOf i).toNat)
    case atStart=>exact⟨0,0,0,yK _,zX _,rfl,rfl,by simp[Hid,ja],rfl⟩
    case round =>
     obtain⟨k,t,m,hk,htk,rfl,rfl,HT,rfl⟩:=hrel;by_cases hlt:k<n
     ·obtain⟨x,hcx,HX,hx1,hx2⟩:=H1.out.cell_ hlt;go_wp2
      go_quiet (fail)
      go_wp2
      ·go_roundw
       case rel=>exact⟨k+1,t+1,_,by omega,by omega,by go_num,by go_num,qW HT.out HX.out (by omega),rfl⟩
       case measure=>simp[intOf];omega
      ·go_roundw
       case rel=>exact⟨k+1,t,_,by omega,by omega,by go_num,by go_num,oe HT.out HX.out (by omega),rfl⟩
       case measure=>simp[intOf];omega
     ·obtain rfl:k=n:=by omega
      have HD:=zZ (EG HL.out HT.out);have HJ:=zZ (Gw HV.out HL.out hn2 hn5 HA.out);have HF:Hid (0<t→f≤mq l):=fun h=>by have:=D4 (l:=l) (d:=d) (by rw[←HD.out];exact h);omega
      obtain⟨a,ha,HM,HMV⟩:=Fc HL.out (by omega);obtain⟨y,hcy,HY,hy1,hy2⟩:=H1.out.cell_ ha;obtain rfl:y=mq l:=by have:=HY.out;rw[HMV.out]at this;exact (xN this).symm
      rw[←HD.out]at HJ;by_cases ht1:t=1
      ·have hd1:((t:Int)==1)=true:=by simp[ht1]
       have HT1:=zZ ht1;clear ht1;go_wp2_with (go_at_call 138;refine (fT _ l _ _ (H1.out.ext ((zE _).drewN _)) HA.out (by intro e;have:=HL.out;subst e;simp at this;omega) (by omega) (by omega)).mono ?_;rintro e w2 ⟨rfl,m2,rfl⟩;rw[HM.out]);go_quiet (fail)
       go_wp2
       go_ret2
       refine⟨gw ?_ (qQ HV.out HL.out hn2 hn5 HA.out),(by repeat (first|exact HE.out|refine ab.drewN ?_ _))⟩;rw[HJ.out,←HM.out];exact IA HT1.out
      ·have hd1:((t:Int)==1)=false:=by simp;omega
       have HT1:=zZ ht1;clear ht1;cases hld:Gq l lead
       ·have HLD:=zZ hld;clear hld;go_wp2_with (go_at_call 138;refine (fT _ l _ _ (H1.out.ext ((zE _).drewN _)) HA.out (by intro e;have:=HL.out;subst e;simp at this;omega) (by omega) (by omega)).mono ?_;rintro e w2 ⟨rfl,m2,rfl⟩;rw[HM.out,HLD.out]);go_quiet (fail)
        go_wp2
        all_goals (go_ret2;refine⟨gw ?_ (qQ HV.out HL.out hn2 hn5 HA.out),(by repeat (first|exact HE.out|refine ab.drewN ?_ _))⟩;rw[HJ.out,HLD.out];first|exact Hx (by omega) HF.out (.inl rfl)|exact Ie (by omega) HT1.out (.inl rfl))
       ·have HLD:=zZ hld;clear hld;by_cases hfm:f≤mq l
        ·go_wp2_with (go_at_call 138;refine (fT _ l _ _ (H1.out.ext ((zE _).drewN _)) HA.out (by intro e;have:=HL.out;subst e;simp at this;omega) (by omega) (by omega)).mono ?_;rintro e w2 ⟨rfl,m2,rfl⟩;rw[HM.out,HLD.out]);go_quiet (fail)
         go_wp2
         go_ret2
         refine⟨gw ?_ (qQ HV.out HL.out hn2 hn5 HA.out),(by repeat (first|exact HE.out|refine ab.drewN ?_ _))⟩;rw[HJ.out,←HM.out,HLD.out];exact ID hfm
        ·have hfm':mq l<f:=by omega
         clear hfm;go_wp2_with (go_at_call 138;refine (fT _ l _ _ (H1.out.ext ((zE _).drewN _)) HA.out (by intro e;have:=HL.out;subst e;simp at this;omega) (by omega) (by omega)).mono ?_;rintro e w2 ⟨rfl,m2,rfl⟩;rw[HM.out,HLD.out]);go_quiet (fail)
         go_wp2
         all_goals (go_ret2;refine⟨gw ?_ (qQ HV.out HL.out hn2 hn5 HA.out),(by repeat (first|exact HE.out|refine ab.drewN ?_ _))⟩;rw[HJ.out,HLD.out];first|exact Hx (by omega) HF.out (.inr hfm')|exact Ie (by omega) HT1.out (.inr hfm'))
def Dc(g:Nat×Nat):List eh:=(List.range g.2).map fun k:Nat=>⟨(g.1:Int),(k:Int)⟩
def cY(G:List (Nat×Nat)):List eh:=(G.map Dc).flatten
theorem bV(g:Nat×Nat):(Dc g).length=g.2:=by simp[Dc]
theorem bj(g:Nat×Nat)(G:List (Nat×Nat)):cY (g::G)=Dc g++cY G:=rfl
theorem iw{g:Nat×Nat}{q:eh}(h:q∈Dc g):q.part=g.1:=by obtain⟨k,_,rfl⟩:=zJ.1 h;rfl
theorem kB{G:List (Nat×Nat)}{q:eh}(h:q∈cY G):∃g∈G,q.part=g.1:=by obtain⟨l,hl,hq⟩:=List.mem_flatten.1 h;obtain⟨g,hg,rfl⟩:=zJ.1 hl;exact⟨g,hg,iw hq⟩
def gf(ps:List ai)(pg:List Int):List (Nat×Nat):=pg.filterMap fun x=>match ps[x.toNat]? with
 |some q=>if q.kind=2 then some (x.toNat,q.opts.toNat) else none
 |none=>none
def eN:List (Nat×Nat)→List Int→List (List Int)
 |[],_=>[]
 |g::G,cs=>cs.take g.2::eN G (cs.drop g.2)
def ti(J:List Int→Int):List (Nat×Nat)→List Int→List Int→List Int
 |[],_,acc=>acc
 |g::G,cs,acc=>ti J G (cs.drop g.2) (acc.set g.1 (J (cs.take g.2)))
def aO(fs:List eh)(cs:List Int)(i:Int):List Int:=(fs.zip cs).filterMap fun x=>if x.1.part=i then some x.2 else none
def Hi(n:Nat)(G:List (Nat×Nat)):Prop:=G.Pairwise (fun a b=>a.1<b.1)∧∀g∈G,g.1<n∧2≤g.2∧g.2≤5
theorem pD{fs:List eh}{i:Int}(hl:fs.length=cs.length)(h:∀q∈fs,q.part=i):aO fs cs i=cs:=by
 induction fs generalizing cs with
 |nil=>simp[aO,yO hl.symm]
 |cons q fs ih =>
  cases cs with
  |nil=>simp at hl
  |cons c cs =>
   have:=ih (cs:=cs) (by simpa using hl) (fun q hq=>h q (by simp[hq]));unfold aO at *
   simp[h q (by simp),this]
theorem eB{fs:List eh}{i:Int}(h:∀q∈fs,q.part≠i):aO fs cs i=[]:=by unfold aO;rw[List.filterMap_eq_nil_iff];intro x hx;have:=h x.1 (List.of_mem_zip hx).1;simp[this]
theorem pf{a b:List eh}{i:Int}(h:a.length≤cs.length):aO (a++b) cs i=aO a (cs.take a.length) i++aO b (cs.drop a.length) i:=by
 unfold aO;conv=>lhs;rw[←List.take_append_drop a.length cs]
 rw[List.zip_append (by simp;omega),List.filterMap_append]
section
variable {J:List Int→Int}
theorem Fi(G:List (Nat×Nat))(cs acc:List Int)(i:Nat)(hp:G.Pairwise (fun a b=>a.1<b.1))(hb:∀g∈G,g.1<acc.length∧2≤g.2)(hl:(cY G).length=cs.length) :
  (ti J G cs acc)[i]?=if aO (cY G) cs (i:Int)=[] then acc[i]? else some (J (aO (cY G) cs (i:Int))):=by
 induction G generalizing cs acc with
 |nil=>simp[ti,cY,aO]
 |cons g G ih =>
  have hl':(cY G).length=(cs.drop g.2).length:=by rw[bj,zI,bV]at hl;rw[xS];omega
  have hlg:g.2≤cs.length:=by rw[bj,zI,bV]at hl;omega
  rw[ti,ih (cs.drop g.2) (acc.set g.1 (J (cs.take g.2))) (xZ.1 hp).2 (fun x hx=>by have:=hb x (by simp[hx]);simpa using this) hl'];rw[bj,pf (by rw[bV];exact hlg),bV];by_cases hi:i=g.1
  ·subst hi;have h1:aO (Dc g) (cs.take g.2) (g.1:Int)=cs.take g.2:=pD (by rw[bV,zF];omega) (fun q hq=>iw hq);have h2:aO (cY G) (cs.drop g.2) (g.1:Int)=[]:=eB (fun q hq=>by
    obtain⟨x,hx,e⟩:=kB hq;have:=(xZ.1 hp).1 x hx;omega)
   rw[h1,h2,xU];have hne:cs.take g.2≠[]:=by intro e;have h3:=congrArg List.length e;rw[zF,List.length_nil]at h3;have:=(hb g (by simp)).2;omega
   rw[if_pos rfl,if_neg hne,xL (hb g (by simp)).1]
  ·have h1:aO (Dc g) (cs.take g.2) (i:Int)=[]:=eB (fun q hq=>by rw[iw hq];omega);rw[h1,List.nil_append,xP (Ne.symm hi)]
end
def iT(J:List Int→Int)(n:Nat)(fs:List eh)(cs:List Int):List Int:=(List.range n).map fun i:Nat=>if aO fs cs (i:Int)=[] then -1 else J (aO fs cs (i:Int))
theorem Fx{J:List Int→Int}{G:List (Nat×Nat)}(hg:Hi n G)(hl:(cY G).length=cs.length):ti J G cs (List.replicate n (-1))=iT J n (cY G) cs:=by
 apply wT;intro i;rw[Fi G cs _ i hg.1 (fun g h=>by have:=hg.2 g h;simp;omega) hl];unfold iT;rcases zV i n with hi|hi
 ·simp only[zL,xH hi,Option.map_some];split<;>simp[hi]
 ·rw[yH (by simpa using hi),yH (by simpa using hi)];rw[if_pos];refine eB (fun q hq=>?_);obtain⟨g,hgm,e⟩:=kB hq;have:=(hg.2 g hgm).1;omega
theorem Dn{fs:List eh}{g:Nat×Nat}{G:List (Nat×Nat)}(h:fs.drop a=cY (g::G)):sk fs a (a+g.2) (g.1:Int):=by
 intro k q hk hk' hq;have:(fs.drop a)[k-a]?=some q:=by rw[xB];rw[show a+(k-a)=k by omega];exact hq
 rw[h,bj,zH (by rw[bV];omega)]at this;exact iw (zU this)
theorem ua{fs:List eh}(hl:fs.length=cs.length):∀(G:List (Nat×Nat)) (a:Nat),G.Pairwise (fun a b=>a.1<b.1)→(∀g∈G,2≤g.2)→fs.drop a=cY G→a≤fs.length →
  (∀q,0<a→fs[a-1]?=some q→∀g∈G,q.part<g.1)→dY fs cs cs.length=dY fs cs a++eN G (cs.drop a):=by
 intro G;induction G with
 |nil =>
  intro a _ _ hd ha _;have:a=cs.length:=by have:=congrArg List.length hd;simp[cY]at this;omega
  subst this;simp[eN]
 |cons g G ih =>
  intro a hp h2 hd ha hprev;have hg2:=h2 g (by simp);have hlen:a+g.2≤fs.length:=by have:=congrArg List.length hd;rw[bj,zI,bV,xS]at this;omega
  have hs:=Dn hd;have hnew:fk fs a:=by
   rcases xW a with h0|h0
   ·exact .inl h0
   ·refine .inr fun x y hx hy=>?_;have h1:=hs a x (zX _) (by omega) hx;have h2:=hprev y h0 hy g (by simp);omega
  have hr:=kE (fs:=fs) (cs:=cs) (by omega) hnew (show a<a+g.2 by omega) (hs.runs hlen);have hd':fs.drop (a+g.2)=cY G:=by rw[←List.drop_drop,hd,bj,List.drop_append,List.drop_eq_nil_of_le (by rw[bV];omega),bV];simp
  rw[ih (a+g.2) (xZ.1 hp).2 (fun x hx=>h2 x (by simp[hx])) hd' hlen (fun q _ hq x hx=>?_),hr,eN,xV,List.drop_drop]
  ·congr 2
   rw[List.singleton_append];congr 1
   rw[List.drop_take];congr 1
   omega
  ·have:=hs (a+g.2-1) q (by omega) (by omega) hq;have:=(xZ.1 hp).1 x hx;omega
theorem Ej{fs:List eh}{G:List (Nat×Nat)}(hl:fs.length=cs.length)(hp:G.Pairwise (fun a b=>a.1<b.1))(h2:∀g∈G,2≤g.2)(hd:fs=cY G):dY fs cs cs.length=eN G cs:=by have:=ua hl G 0 hp h2 (by simpa using hd) (by omega) (fun q h=>by omega);simpa[dY] using this
theorem mJ(ps:List ai)(pg:List Int)(h0:∀x∈pg,0≤x):cW ps pg=cY (gf ps pg):=by
 induction pg with
 |nil=>rfl
 |cons x pg ih =>
  have hx:=h0 x (by simp);have e:cW ps (x::pg)=gz ps x++cW ps pg:=rfl;rw[e,ih (fun y hy=>h0 y (by simp[hy]))];unfold gf;rw[List.filterMap_cons];unfold gz;cases hq:ps[x.toNat]? with
  |none=>simp
  |some q =>
   by_cases hk:q.kind=2
   ·simp only[hk,if_true];rw[bj];congr 1
    unfold Dc;simp only;rw[show ((x.toNat:Nat):Int)=x by omega]
   ·simp[hk]
theorem mB{code var:Int}{ps:List ai}{pgs:List (List Int)}{pg:List Int}(h:eU code var ps pgs=true)(hp:pgs[i]?=some pg):Hi ps.length (gf ps pg)∧∀x∈pg,0≤x:=by
 have hpp:=eA h hp;have hb:=jg h;obtain⟨hv,_,_,_,hok⟩:=hb;have key:∀(l:List (List Int)) (nx i:Nat) (pg:List Int),cT (ps.map cm) nx l→l[i]?=some pg→∃a,kz (ps.map cm) a pg:=by
  intro l;induction l with
  |nil=>intro nx i pg _ h;simp at h
  |cons p l ih =>
   intro nx i pg ho h;cases i with
   |zero=>simp at h;subst h;exact⟨nx,ho.1⟩
   |succ i=>exact ih _ i pg ho.2 (by simpa using h)
 obtain⟨a,ha⟩:=key pgs 0 i pg hok hp;have hasc:pg.Pairwise (fun x y=>x<y):=by rw[wN];intro k m hk hm hkm;have e1:=ha.1.2 k _ hk (zW hk);have e2:=ha.1.2 m _ hm (zW hm);omega
 have h0:∀x∈pg,0≤x:=by intro x hx;obtain⟨k,hk⟩:=yZ hx;obtain⟨j,q,rfl,_⟩:=hpp.2 k x hk;omega
 refine⟨⟨?_,?_⟩,h0⟩
 ·unfold gf;rw[List.pairwise_filterMap];refine hasc.imp_of_mem ?_;intro x y hx hy hxy g hg g' hg';have:=h0 x hx;split at hg
  ·split at hg
   ·injection hg with hg;subst hg;split at hg'
    ·split at hg'
     ·injection hg' with hg';subst hg';simp only;omega
     ·cases hg'
    ·cases hg'
   ·cases hg
  ·cases hg
 ·intro g hg;unfold gf at hg;obtain⟨x,hx,hg⟩:=wA.1 hg;obtain⟨k,hk⟩:=yZ hx;obtain⟨j,q,rfl,hj,_,hvq⟩:=hpp.2 k x hk;simp only[yR,hj]at hg;split at hg
  ·rename_i hk2
   injection hg with hg;subst hg;have:=je hvq;have:=(zY.1 hj).1;simp only;omega
  ·cases hg
theorem mh(d f ld:Int)(l:List Int):-2≤bH d f ld l∧bH d f ld l≤5:=by
 unfold bH;split
 ·omega
 ·rename_i h
  have h5:l.length≤5:=by
   rcases zV 5 l.length with h'|h'
   ·exact absurd (.inr (.inr (.inl h'))) h
   ·exact h'
  have hm:0≤pt l∧pt l≤5:=by unfold pt;have:=Be l l.length;omega
  split
  ·omega
  ·split
   ·split<;>omega
   ·split<;>omega
noncomputable def bQ(code var:Int)(ps:List ai)(pgs:List (List Int))(d f ld page:Int)(cs:List Int):List Int :=
 if dp d f ld=true∧eU code var ps pgs=true∧0≤page∧page<pgs.length∧cs.length=(aA code var ps pgs page).length∧cs.all bd=true then iT (bH d f ld) ps.length (aA code var ps pgs page) cs else []
noncomputable def gh(code var:Int)(ps:List ai)(pgs:List (List Int))(d f ld page:Int)(cs:List Int):Int :=
 if ¬(dp d f ld=true∧eU code var ps pgs=true) then 1 else if ¬(0≤page∧page<pgs.length) then 4 else if cs.length≠(aA code var ps pgs page).length then 22 else if cs.all bd=false then 2 else 0
section
variable {code var:Int} {ps:List ai} {pgs:List (List Int)} {d f ld page:Int} {cs:List Int}
theorem El(h:¬(dp d f ld=true∧eU code var ps pgs=true)):[]=bQ code var ps pgs d f ld page cs∧1=gh code var ps pgs d f ld page cs:=by
 constructor
 ·unfold bQ;rw[if_neg (fun x=>h ⟨x.1,x.2.1⟩)]
 ·unfold gh;rw[if_pos h]
theorem Dl(h:dp d f ld=true∧eU code var ps pgs=true)(h2:¬(0≤page∧page<pgs.length)):[]=bQ code var ps pgs d f ld page cs∧4=gh code var ps pgs d f ld page cs:=by
 constructor
 ·unfold bQ;rw[if_neg (fun x=>h2 ⟨x.2.2.1,x.2.2.2.1⟩)]
 ·unfold gh;rw[if_neg (fun x=>x h),if_pos h2]
theorem AJ(h:dp d f ld=true∧eU code var ps pgs=true)(h2:0≤page∧page<pgs.length)(h3:cs.length≠(aA code var ps pgs page).length):[]=bQ code var ps pgs d f ld page cs∧22=gh code var ps pgs d f ld page cs:=by
 constructor
 ·unfold bQ;rw[if_neg (fun x=>h3 x.2.2.2.2.1)]
 ·unfold gh;rw[if_neg (fun x=>x h),if_neg (fun x=>x h2),if_pos h3]
theorem DN(h:dp d f ld=true∧eU code var ps pgs=true)(h2:0≤page∧page<pgs.length)(h3:cs.length=(aA code var ps pgs page).length)(h4:cs.all bd=false):[]=bQ code var ps pgs d f ld page cs∧2=gh code var ps pgs d f ld page cs:=by
 constructor
 ·unfold bQ;rw[if_neg (fun x=>by rw[x.2.2.2.2.2]at h4;cases h4)]
 ·unfold gh;rw[if_neg (fun x=>x h),if_neg (fun x=>x h2),if_neg (fun x=>x h3),if_pos h4]
theorem yx(h:dp d f ld=true∧eU code var ps pgs=true)(h2:0≤page∧page<pgs.length)(h3:cs.length=(aA code var ps pgs page).length)(h4:cs.all bd=true):iT (bH d f ld) ps.length (aA code var ps pgs page) cs=bQ code var ps pgs d f ld page cs∧0=gh code var ps pgs d f ld page cs:=by
 constructor
 ·unfold bQ;rw[if_pos ⟨h.1,h.2,h2.1,h2.2,h3,h4⟩]
 ·unfold gh;rw[if_neg (fun x=>x h),if_neg (fun x=>x h2),if_neg (fun x=>x h3),if_neg (by simp[h4])]
theorem oC(fs:List eh)(n:Nat)(cs:List Int):∀x∈iT (bH d f ld) n fs cs,aC x:=by intro x hx;obtain⟨i,_,rfl⟩:=zJ.1 hx;have:=mh d f ld (aO fs cs (i:Int));split<;>exact⟨by omega,by omega⟩
end
def Cs{α:Type}(f:α→Bool)(l:List α):Int:=if l.any f then (l.findIdx f:Int) else -1
section
variable {α:Type} {f:α→Bool} {l:List α} {k:Nat} {x:α}
theorem uV(h:l[k]?=some x)(hp:f x=true)(hn:∀j y,j<k→l[j]?=some y→f y=false):(k:Int)=Cs f l:=by
 obtain⟨hk,rfl⟩:=zY.1 h;have:l.any f=true:=xJ.2 ⟨_,xX hk,hp⟩;rw[Cs,if_pos this];congr 1
 symm
 rw[List.findIdx_eq hk];exact⟨hp,fun j hj=>hn j _ hj (zW (by omega))⟩
theorem Cr(hl:l.length=n)(hn:∀j y,j<n→l[j]?=some y→f y=false):-1=Cs f l:=by rw[Cs,if_neg];rw[xJ];rintro⟨x,hx,hp⟩;obtain⟨j,hj⟩:=yZ hx;have:=hn j x (by have:=(zY.1 hj).1;omega) hj;simp[hp]at this
def ig(f:α→Bool)(l:List α)(k:Nat):Prop:=∀j y,j<k→l[j]?=some y→f y=false
theorem ig.zero(f:α→Bool)(l:List α):ig f l 0:=fun j y hj=>by omega
theorem ig.succ(h:ig f l k)(hx:l[k]?=some x)(hp:f x=false):ig f l (k+1):=by
 intro j y hj hy;by_cases e:j=k
 ·subst e;rw[hx]at hy;rw[←xN hy];exact hp
 ·exact h j y (by omega) hy
theorem FC(h:l[k]?=some x)(hp:f x=true):true=l.any f:=(xJ.2 ⟨x,zU h,hp⟩).symm
theorem DF(hl:l.length=n)(hn:ig f l n):false=l.any f:=by
 symm
 rw[wL];intro x hx;obtain⟨j,hj⟩:=yZ hx;have:=hn j x (by have:=(zY.1 hj).1;omega) hj;simp[this]
end
def kO(x:Int)(l:List Int):Bool:=l.any fun y=>decide (y=x)
def dC(pgs:List (List Int))(x:Int):Int:=Cs (kO x) pgs
def oT(x:aY):Bool:=decide (1≤x.state∧x.state≤6)
def pV(x:aY):Bool:=decide (x.state=1)
def qp{α:Type}(lt:α→α→Bool)(l:List α)(i:Nat):Bool:=match l[i]?,l[i+1]? with
 |some a,some b=>lt a b
 |_,_=>true
def dr(l:List aY)(k:Nat):Nat:=((l.take k).filter pV).length
def fJ(l:List aY):Nat:=(l.filter pV).length
def qj(l:List aY)(i:Nat):Bool:=match l[i]? with
 |some x=>oT x&&(match i with
  |0=>true
  |k+1=>qp aW l k)
 |none=>true
def fM(l:List aY):Bool:=(List.range l.length).all (qj l)
def ia(l:List aY)(id:jd):Option aY:=l.find? fun x=>decide (x.scan=id)
noncomputable def fH(s:aZ)(sts:List aY)(q:Pg):Bool:=match aJ s.xp q.cand,ia sts q.scan with
 |some x,some y=>decide (y.state=1)&&(decide (y.lab=⟨s.num,q.cand,q.page,x.var⟩)&&be s ⟨s.num,q.cand,q.page,x.var⟩ q.ch)
 |_,_=>false
noncomputable def mQ(s:aZ)(sts:List aY)(l:List Pg)(i:Nat):Bool:=match l[i]? with
 |some x=>(match i with
  |0=>true
  |k+1=>qp cM l k)&&fH s sts x
 |none=>true
noncomputable def aV(s:aZ)(i:en):Bool :=
 decide (aw s=0)&&(fM i.sts&&(decide (fJ i.sts=i.pgs.length)&&(List.range i.pgs.length).all (mQ s i.sts i.pgs)))
def bT(l:List Pg)(c g:Int):Option Pg:=l.find? fun x=>decide (x.cand=c)&&decide (x.page=g)
def jx(c:Int)(x:aY):Bool:=decide (x.state=3)&&decide (x.lab.c=c)
def eW(a b:Int):Bool:=decide (a<b)
theorem Gj:ue eW:=⟨fun a=>by unfold eW;simp,fun a b c h1 h2=>by unfold eW at *;simp only[decide_eq_true_eq]at *;omega⟩
def dc(l:List aY)(c:Int):List Int:=mF eW ((l.filter (jx c)).map fun x=>x.lab.g)
def aK(l:List Pg)(c:Int)(k:Nat):List Int:=(List.range k).filterMap fun g:Nat=>if (bT l c (g:Int)).isSome then none else some (g:Int)
structure Am where
 cand:Int
 state:Int
 pgs:List Int
def fA(s:aZ)(v:Int):Nat:=((s.bk[v.toNat]?).getD []).length
def bW(s:aZ)(i:en)(x:dF):Am :=
 if dc i.sts x.cand≠[] then ⟨x.cand,3,dc i.sts x.cand⟩
 else if aK i.pgs x.cand (fA s x.var)=[] then ⟨x.cand,1,[]⟩
 else if (aK i.pgs x.cand (fA s x.var)).length=fA s x.var then ⟨x.cand,4,[]⟩
 else ⟨x.cand,2,aK i.pgs x.cand (fA s x.var)⟩
structure oy where
 num:Int
 pap:Int
 cand:Int
 cen:Int
 var:Int
 pgs:List Int
 ans:List Int
noncomputable def fC(s:aZ)(i:en)(d f ld:Int)(x:dF):List Int:=match s.pap[x.var.toNat]?,s.bk[x.var.toNat]? with
 |some q,some b=>(List.range q.ps.length).map fun k=>match q.ps[k]? with
  |some r=>if r.kind=2 then (match bT i.pgs x.cand (dC b (k:Int)) with
   |some pg=>(bQ q.code q.var q.ps b d f ld (dC b (k:Int)) pg.ch).getD k 0
   |none=>(bQ q.code q.var q.ps b d f ld (dC b (k:Int)) []).getD k 0) else -1
  |none=>-1
 |_,_=>[]
def ee(i:en)(c:Int)(n:Nat):List Int:=(List.range n).map fun g:Nat=>((bT i.pgs c (g:Int)).map Pg.cont).getD 0
noncomputable def sc(s:aZ)(i:en)(d f ld:Int)(x:dF):oy :=
 ⟨s.num*10000+x.cand,s.num,x.cand,x.cen,x.var,ee i x.cand (fA s x.var),fC s i d f ld x⟩
def bM(s:aZ)(i:en)(x:dF):Bool:=decide ((bW s i x).state=1)
noncomputable def Do(s:aZ)(i:en)(d f ld:Int):List oy:=(s.xp.filter (bM s i)).map (sc s i d f ld)
def eu(s:aZ)(i:en)(l:List oy)(k:Nat):Bool:=match l[k]? with
 |some c=>(match k with
  |0=>true
  |j+1=>qp (fun a b:oy=>decide (a.num<b.num)) l j)&&(match aJ s.xp c.cand with
   |some x=>decide (c.num=s.num*10000+x.cand)&&(decide (c.pap=s.num)&&(decide (c.cen=x.cen)&&(decide (c.var=x.var)&&(decide (c.pgs.length=fA s x.var) &&
     (List.range c.pgs.length).all fun g=>match bT i.pgs x.cand (g:Int),c.pgs[g]? with
      |some q,some y=>decide (q.cont=y)
      |_,_=>false))))
   |none=>false)
 |none=>true
noncomputable def bU(s:aZ)(i:en)(l:List oy):Bool:=aV s i&&(List.range l.length).all (eu s i l)
theorem eC{f:Nat→Bool}(h:∀i,i<n→f i=true):(List.range n).all f=true:=yS.2 fun i hi=>h i (zB.1 hi)
theorem dA{f:Nat→Bool}(hk:k<n)(h:f k=false):(List.range n).all f=false:=by rw[xR];exact⟨k,zB.2 hk,by rw[h];simp⟩
theorem i7{f:Nat→Bool}(h:(List.range n).all f=true)(hi:i<n):f i=true:=yS.1 h i (zB.2 hi)
section
variable {s:aZ} {i:en}
structure vk (s:aZ) (i:en):Prop where
 chk:aw s=0
 sts:∀k,k<i.sts.length→qj i.sts k=true
 used:fJ i.sts=i.pgs.length
 pgs:∀k,k<i.pgs.length→mQ s i.sts i.pgs k=true
theorem eQ:aV s i=true↔vk s i:=by
 unfold aV fM;simp only[yY,decide_eq_true_eq];constructor
 ·rintro⟨h1,h2,h3,h4⟩;exact⟨h1,fun k hk=>i7 h2 hk,h3,fun k hk=>i7 h4 hk⟩
 ·intro h;exact⟨h.chk,eC h.sts,h.used,eC h.pgs⟩
theorem pm(h:∀k,k<i.sts.length→qj i.sts k=true):fB aW i.sts:=by refine ju Fh fun k x y hx hy=>?_;have:=h (k+1) (zY.1 hy).1;unfold qj at this;rw[hy]at this;simp only[yY]at this;have h2:=this.2;unfold qp at h2;rw[hx,hy]at h2;exact h2
theorem vk.asc(h:vk s i):fB aW i.sts:=pm h.sts
theorem vk.ascP(h:vk s i):fB cM i.pgs:=by refine ju GN fun k x y hx hy=>?_;have:=h.pgs (k+1) (zY.1 hy).1;unfold mQ at this;rw[hy]at this;simp only[yY]at this;have h2:=this.1;unfold qp at h2;rw[hx,hy]at h2;exact h2
theorem vk.page(h:vk s i){q:Pg}(hq:q∈i.pgs):fH s i.sts q=true:=by obtain⟨k,hk⟩:=yZ hq;have:=h.pgs k (zY.1 hk).1;unfold mQ at this;rw[hk]at this;simp only[yY]at this;exact this.2
theorem G1(h1:aw s=0)(h2:fB aW i.sts)(h3:∀x∈i.sts,1≤x.state∧x.state≤6)(h4:fJ i.sts=i.pgs.length)(h5:fB cM i.pgs)(h6:∀q∈i.pgs,fH s i.sts q=true):vk s i:=by
 refine⟨h1,fun k hk=>?_,h4,fun k hk=>?_⟩
 ·have e:i.sts[k]?=some i.sts[k]:=zW hk;unfold qj;rw[e];have:=h3 _ (xX hk);simp only[yY];refine⟨by unfold oT;simpa using this,?_⟩;cases k with
  |zero=>rfl
  |succ k =>
   have e':i.sts[k]?=some i.sts[k]:=zW (by omega);simp only;unfold qp;rw[e',e];exact h2.at_ e' e (by omega)
 ·have e:i.pgs[k]?=some i.pgs[k]:=zW hk;unfold mQ;rw[e];simp only[yY];refine⟨?_,h6 _ (xX hk)⟩;cases k with
  |zero=>rfl
  |succ k =>
   have e':i.pgs[k]?=some i.pgs[k]:=zW (by omega);simp only;unfold qp;rw[e',e];exact h5.at_ e' e (by omega)
theorem yy{l:List Pg}{c g:Int}{x:Pg}(h:bT l c g=some x):x∈l∧x.cand=c∧x.page=g:=by unfold bT at h;have:=List.find?_some h;simp only[yY,decide_eq_true_eq]at this;exact⟨List.mem_of_find?_eq_some h,this⟩
theorem bh{l:List dF}{c:Int}{x:dF}(h:aJ l c=some x):x∈l∧x.cand=c:=by unfold aJ at h;exact⟨List.mem_of_find?_eq_some h,by simpa using List.find?_some h⟩
def ub(a b:dF):Bool:=decide (a.cand<b.cand)
theorem G4:ue ub:=⟨fun a=>by unfold ub;simp,fun a b c h1 h2=>by unfold ub at *;simp only[decide_eq_true_eq]at *;omega⟩
theorem cD.asc_(h:cD s):fB ub s.xp:=by refine ju G4 fun k x y hx hy=>?_;have:=h.asc k (zY.1 hy).1;unfold j6 at this;rw[hx,hy]at this;exact this
theorem qL(h:fB ub s.xp){x:dF}(hx:x∈s.xp):aJ s.xp x.cand=some x:=by obtain⟨k,hk⟩:=yZ hx;unfold aJ;refine iY hk (by simp) fun j y hj hy=>?_;have:=h.at_ hy hk hj;refine decide_eq_false fun e=>?_;unfold ub at this;simp only[decide_eq_true_eq]at this;omega
theorem vk.pg_in(h:vk s i){q:Pg}(hq:q∈i.pgs):∃x p b,aJ s.xp q.cand=some x∧s.pap[x.var.toNat]?=some p∧s.bk[x.var.toNat]?=some b∧0≤q.page∧q.page<(b.length:Int)∧q.ch.length=(aA p.code p.var p.ps b q.page).length∧q.ch.all bd=true:=by
 have:=h.page hq;unfold fH at this;cases h1:aJ s.xp q.cand with
 |none=>rw[h1]at this;cases this
 |some x =>
  rw[h1]at this;cases h2:ia i.sts q.scan with
  |none=>rw[h2]at this;cases this
  |some y =>
   rw[h2]at this;simp only[yY,decide_eq_true_eq]at this;obtain⟨x',p,b,h3,h4,h5,h6,h7,h8,h9,h10,h11⟩:=jS.1 this.2.2;exact⟨x,p,b,rfl,h6,h7,h8,h9,h10,h11⟩
end
def jB(s:aZ):List cU:=s.xp.flatMap fun x=>(List.range (fA s x.var)).map fun g:Nat=>⟨s.num,x.cand,(g:Int),x.var⟩
structure Iu (s:aZ) (i:Nat) (l:cU) (c:aF):Prop where
 kind:c.kind=1
 src:c.st.s=1
 seq:c.st.q=(i:Int)
 time:0≤c.st.t∧c.st.t≤24
 str:c.str=lq (sX l.p l.c l.g l.v)
 cont:c.cont=100*l.c+l.g
 len:∀q b,s.pap[l.v.toNat]?=some q→s.bk[l.v.toNat]?=some b→c.ch.length=(aA q.code q.var q.ps b l.g).length
 val:c.ch.all bd=true
def k9(s:aZ)(ls:List cU)(L:List aF):Prop:=L.length=ls.length∧∀(i:Nat) c l,L[i]?=some c→ls[i]?=some l→Iu s i l c
theorem k9.nil(s:aZ):k9 s [] []:=⟨rfl,fun i c l h=>by cases h⟩
theorem k9.snoc{s:aZ}{ls:List cU}{L:List aF}{c:aF}{l:cU}(h:k9 s ls L)(hc:Iu s L.length l c):k9 s (ls++[l]) (L++[c]):=by
 refine⟨by simp[h.1],fun i d m hd hm=>?_⟩;rcases zV i L.length with hi|hi
 ·rw[zH hi]at hd;rw[zH (by rw[←h.1];exact hi)]at hm;exact h.2 i d m hd hm
 ·rw[yT hi]at hd;rw[yT (by rw[←h.1];exact hi)]at hm;have hj:i-L.length=0:=by
   have:=(zY.1 hd).1;simp at this;omega
  rw[hj]at hd;rw[←h.1,hj]at hm;simp at hd hm;subst hd;subst hm;rw[show i=L.length by omega];exact hc
structure De (s:aZ) (L:List aF):Prop where
 ok:cD s
 cap:k9 s (jB s) L
section
variable {s:aZ} {L:List aF}
theorem gQ(h:cD s){v:Int}(h0:0≤v)(h1:v<(s.pap.length:Int)):∃q b,s.pap[v.toNat]?=some q∧s.bk[v.toNat]?=some b∧eU q.code q.var q.ps b=true∧d9 q.code q.var q.ps=true∧q.code=s.num∧q.var=v:=by
 have hv:v.toNat<s.pap.length:=by omega
 have:=h.pap _ hv;have e1:s.pap[v.toNat]?=some s.pap[v.toNat]:=zW hv;have hv':v.toNat<s.bk.length:=by rw[h.bks];exact hv
 have e2:s.bk[v.toNat]?=some s.bk[v.toNat]:=zW hv';unfold iA at this;rw[e1,e2]at this;simp only[yY,decide_eq_true_eq]at this;exact⟨_,_,e1,e2,this.2.2.2,this.1,this.2.1,by omega⟩
theorem fw(h:cD s){x:dF}(hx:x∈s.xp):0≤x.cand∧x.cand≤9999∧0≤x.var∧x.var<(s.pap.length:Int)∧1≤x.cen∧x.cen≤99:=by have:=h.xps x hx;unfold sx at this;simp only[decide_eq_true_eq]at this;omega
theorem vE{v:Int}{b:List (List Int)}(h:s.bk[v.toNat]?=some b):fA s v=b.length:=by unfold fA;rw[h];rfl
theorem sQ{l:cU}:l∈jB s↔∃x∈s.xp,∃g:Nat,g<fA s x.var∧l=⟨s.num,x.cand,(g:Int),x.var⟩:=by
 unfold jB;rw[List.mem_flatMap];constructor
 ·rintro⟨x,hx,hl⟩;obtain⟨g,hg,rfl⟩:=zJ.1 hl;exact⟨x,hx,g,zB.1 hg,rfl⟩
 ·rintro⟨x,hx,g,hg,rfl⟩;exact⟨x,hx,zJ.2 ⟨g,zB.2 hg,rfl⟩⟩
theorem k8{code var:Int}{ps:List ai}{b:List (List Int)}(h:eU code var ps b=true):4≤b.length∧b.length≤12:=by
 obtain⟨hv,h1,h2,h3,h4⟩:=jg h;refine⟨?_,h1⟩;cases b with
 |nil =>
  have h5:0=(ps.map cm).length:=h4;have h6:=(iV hv).2.2.2.2.1;rw[zM]at h5;omega
 |cons a l=>simp only[xT]at h2⊢;omega
theorem Dt(h:cD s){l:cU}(hl:l∈jB s):ez l.p l.c l.g l.v=true:=by obtain⟨x,hx,g,hg,rfl⟩:=sQ.1 hl;have hb:=fw h hx;obtain⟨q,b,h1,h2,h3,-⟩:=gQ h hb.2.2.1 hb.2.2.2.1;have:=(k8 h3).2;rw[vE h2]at hg;have:=h.num;have:=h.len;exact kN.2 ⟨by simp only;omega,by simp only;omega,by simp only;omega,by simp only;omega⟩
end
end Go.Proofs.YtjgfgdcaocbfhaaGreat

