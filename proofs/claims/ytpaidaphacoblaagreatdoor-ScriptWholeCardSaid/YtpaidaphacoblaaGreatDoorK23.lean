import Derived.Test.YtpaidaphacoblaaGreatDoorStI
import Derived.Test.YtpaidaphacoblaaGreatDoorK8
set_option linter.all false
set_option maxRecDepth 100000
set_option maxHeartbeats 0
namespace Go.Proofs.YtpaidaphacoblaaGreatDoor
open Go.RowKit _root_.Go.Proofs.Tryz
variable {l:List Int} {i k p:Nat} {c g v:Int}
def j5(d f l:Int):Bool:=decide (1<=f/\f<=d/\d<=9/\1<=l/\l<=9)
theorem uk(d f l:Int)(w:World) :
  Calls prog 43 #[.agg #[.int .i64 d,.int .i64 f,.int .i64 l]] w fun e w'=>e=.returned (.bool (j5 d f l))/\ab w w':=by
 go_enter func43,ntmps43
 go_wp2
 all_goals (go_ret;exact⟨aa (by first|(simp[j5];omega)|(rw[yE];simp[j5];omega)),(zE _).alloc _⟩)
def fE(x:Int):Bool:=decide (0<=x/\x<=9)
theorem Ak{p:Int->Bool}{x:Int}(h:l[k]?=some x):(l.take (k+1)).all p=((l.take k).all p&&p x):=by rw[ax h];simp
theorem N1(x:Int)(w:World) :
  Calls prog 160 #[.int .i64 x] w fun e w'=>e=.returned (.bool (fE x))/\w=w':=by
 go_enter func160,ntmps160
 go_wp2
 all_goals (go_ret;exact⟨aa (by first|(simp[fE];omega)|(rw[yE];simp[fE];omega)),rfl⟩)
theorem MH(x:Int)(w:World) :
  Calls prog 159 #[.int .i64 x] w fun e w'=>e=.returned (.bool (!fE x))/\w=w':=by
 go_enter func159,ntmps159
 go_wp2_with (go_at_call 160;refine (N1 _ _).mono ?_;rintro e w' ⟨rfl,rfl⟩);go_ret
 exact⟨rfl,rfl⟩
def Cl(p:Int->Bool)(l:List Int):Int:=if l.any p then (l.findIdx p:Int) else -1
theorem Im{p:Int->Bool}{x:Int}(h:l[k]?=some x)(hp:p x=true)(hn:(l.take k).all (fun x=>!p x)=true):(k:Int)=Cl p l:=by
 obtain⟨hk,rfl⟩:=zY.1 h;have:l.any p=true:=wZ.2 ⟨_,xC hk,hp⟩;rw[Cl,if_pos this];congr 1
 symm
 rw[List.findIdx_eq hk];refine⟨hp,fun j hj=>?_⟩;have:=xS.1 hn l[j] (by rw[List.mem_take_iff_getElem];exact⟨j,by omega,rfl⟩);simpa using this
theorem E5{p:Int->Bool}(hn:l.all (fun x=>!p x)=true):-1=Cl p l:=by rw[Cl,if_neg];rw[wZ];rintro⟨x,hx,hp⟩;have:=xS.1 hn x hx;simp[hp]at this
theorem Hc(p:Int->Bool)(l:List Int):decide (0<=Cl p l)=l.any p:=by unfold Cl;split<;>simp_all
theorem IG(p:Int->Bool)(l:List Int):(!l.any (fun x=>!p x))=l.all p:=by induction l<;>simp_all
theorem NA(v:Value)(l:List Int)(w:World)(h:ak p w v l) :
  Calls prog 102 #[v,.func (.func 159) #[] #[]] w fun e w'=>e=.returned (.int .i64 (Cl (fun x=>!fE x) l))/\w=w':=by
 obtain⟨A,n,c,rfl,hnc,hc,hnn,HL⟩:=h.open_;have H:=zZ h;clear h;go_enter func102,ntmps102
 go_wp2
 go_loop [8] (fun i=>∃k:Nat,k<=n/\i=.int .i64 k/\Hid ((l.take k).all (fun x=>!!fE x)=true)) (fun i=>n-(intOf i).toNat)
 case atStart=>exact⟨0,xL _,rfl,by simp[Hid]⟩
 case round =>
  obtain⟨k,hk,rfl,HK⟩:=hrel;by_cases hlt:k<n
  ·obtain⟨b,off,x,rfl,hcx,HX,hx1,hx2⟩:=H.out.at_ hlt;cases hb:fE x
   ·have HB:=zZ hb;clear hb;go_wp2_with (go_at_call 159;refine (MH _ _).mono ?_;rintro e w' ⟨rfl,rfl⟩;rw[HB.out]);go_ret
    exact⟨ag (Im HX.out (by simp[HB.out]) HK.out),rfl⟩
   ·have HB:=zZ hb;clear hb;go_wp2_with (go_at_call 159;refine (MH _ _).mono ?_;rintro e w' ⟨rfl,rfl⟩;rw[HB.out]);go_round
    case rel=>exact⟨k+1,by omega,by go_num,by show (l.take (k+1)).all _=true;rw[Ak HX.out,HK.out];simp[HB.out]⟩
    case measure=>simp[intOf];omega
  ·go_wp2
   go_ret
   have:=HK.out;rw[bh (by have:=HL.out;omega)]at this;exact⟨ag (E5 this),rfl⟩
theorem MY(v:Value)(l:List Int)(w:World)(h:ak p w v l) :
  Calls prog 68 #[v,.func (.func 159) #[] #[]] w fun e w'=>e=.returned (.bool (l.any (fun x=>!fE x)))/\w=w':=by
 have H:=zZ h;clear h;go_enter func68,ntmps68
 go_wp2_with (go_at_call 102;refine (NA _ l _ H.out).mono ?_;rintro e w' ⟨rfl,rfl⟩);go_ret
 exact⟨aa (Hc _ _),rfl⟩
theorem BS(v:Value)(l:List Int)(w:World)(h:ak p w v l) :
  Calls prog 124 #[v] w fun e w'=>e=.returned (.bool (l.all fE))/\w=w':=by
 have H:=zZ h;clear h;go_enter func124,ntmps124
 go_wp2_with (go_at_call 68;refine (MY _ l _ H.out).mono ?_;rintro e w' ⟨rfl,rfl⟩);go_ret
 exact⟨aa (IG _ _),rfl⟩
open Classical in
noncomputable def dR(s:List UInt8):Option cJ:=if h:∃l:cJ,∃n,iZ s l.p l.c l.g l.v n 0 then some h.choose else none
theorem mA{s:List UInt8}{p n:Int}(h:iZ s p c g v n 0):dR s=some ⟨p,c,g,v⟩:=by
 have hx:∃l:cJ,∃n,iZ s l.p l.c l.g l.v n 0:=⟨⟨p,c,g,v⟩,n,h⟩
 unfold dR;rw[dif_pos hx];obtain⟨m,hm⟩:=hx.choose_spec;have:=tm hm h;rw[show hx.choose=⟨p,c,g,v⟩ from (cJ.eq_iff _ _).2 ⟨this.1,this.2.1,this.2.2.1,this.2.2.2.1⟩]
theorem mJ{s:List UInt8}{p n k:Int}(h:iZ s p c g v n k)(hk:k≠0):dR s=none:=by unfold dR;rw[dif_neg];rintro⟨l,m,hm⟩;exact hk (tm h hm).2.2.2.2.2
def fH(id:gT)(c:aj):Bool:=(decide (c.kind=2)||decide (c.kind=3))&&decide (c.tgt=id)
def dm(id:gT)(c:aj):Bool:=decide (c.kind=1)&&decide (c.id=id)
noncomputable def iI(at_ last:Option aj):cJ×Int:=match at_ with
 |none=>(cJ.zero,4)
 |some a=>match last with
  |some d=>if d.kind=3 then (cJ.zero,6) else (d.lab,0)
  |none=>match dR a.str with
   |some x=>(x,0)
   |none=>(cJ.zero,4)
noncomputable def aQ(l:List aj)(id:gT):cJ×Int:=iI (l.find? (dm id)) ((l.filter (fH id)).getLast?)
def fo(l:List fv)(c:Int):Option fv:=l.find? fun x=>decide (x.cand=c)
noncomputable def bH(s:dl)(lab:cJ)(ch:List Int):Bool:=match fo s.xp lab.c with
 |some x=>decide (lab.p=s.num)&&(decide (x.var=lab.v)&&(match s.pap[lab.v.toNat]?,s.bk[lab.v.toNat]? with
  |some q,some b=>decide (0<=lab.g/\lab.g<(b.length:Int))&&(decide (ch.length=(dr q.code q.var q.ps b lab.g).length)&&ch.all fE)
  |_,_=>false))
 |none=>false
noncomputable def eC(s:dl)(lab:cJ)(ch:List Int):Bool:=decide (aC s=0)&&bH s lab ch
structure dH where
 cap:aj
 lab:cJ
 st:Int
 fit:Bool
noncomputable def aM(s:dl)(l:List aj)(c:aj):dH :=
 if c.kind=1 then ⟨c,(aQ l c.id).1,if (aQ l c.id).2=0 then (if bH s (aQ l c.id).1 c.ch then 0 else 5) else (aQ l c.id).2,decide ((aQ l c.id).2=0)&&bH s (aQ l c.id).1 c.ch⟩
 else ⟨c,cJ.zero,0,false⟩
noncomputable def af(s:dl)(l:List aj):List dH:=l.map (aM s l)
def dB(x y:dH):Bool:=y.fit&&decide (y.lab=x.lab)
def en(x y:dH):Bool:=!(decide (y.cap.cont=x.cap.cont)&&decide (y.cap.ch=x.cap.ch))
def dL(l:List dH)(i:Nat)(x:dH):Int:=if (l.any fun y=>dB x y&&en x y) then 3 else if (l.take i).any (dB x) then 2 else 1
def cR(l:List dH)(i:Nat)(x:dH):Int:=if x.fit then dL l i x else x.st
def lN(l:List dH)(i:Nat)(x:dH):dF:=⟨x.cap.id,cR l i x,x.lab⟩
def Gs(x:dH):Pg:=⟨x.lab.c,x.lab.g,x.cap.cont,x.cap.ch,x.cap.id⟩
def ry(l:List dH)(i:Nat):Option dF:=(l[i]?).bind fun x=>if x.cap.kind=1 then some (lN l i x) else none
def Pm(l:List dH)(i:Nat):Option Pg:=(l[i]?).bind fun x=>if x.cap.kind=1/\cR l i x=1 then some (Gs x) else none
def aZ(l:List dH)(k:Nat):List dF:=(List.range k).filterMap (ry l)
def bW(l:List dH)(k:Nat):List Pg:=(List.range k).filterMap (Pm l)
def bU(a b:dF):Bool:=et a.scan b.scan
def dW(a b:Pg):Bool:=decide (a.cand<b.cand\/(a.cand=b.cand/\a.page<b.page))
noncomputable def cQ(s:dl)(l:List aj):r6:=⟨bE bU (aZ (af s l) l.length),bE dW (bW (af s l) l.length)⟩
theorem wm:xj bU:=⟨fun a=>qo.irr a.scan,fun a b c=>qo.tr a.scan b.scan c.scan⟩
theorem Kn:xj dW:=⟨fun a=>by unfold dW;simp,fun a b c h1 h2=>by unfold dW at *;simp only[decide_eq_true_eq]at *;omega⟩
section
variable {s:dl} {l:List aj} {a b:cJ} {ch ch':List Int}
theorem ii:bH s a ch=true↔∃x q bk,fo s.xp a.c=some x/\a.p=s.num/\x.var=a.v/\s.pap[a.v.toNat]?=some q/\s.bk[a.v.toNat]?=some bk/\0<=a.g/\a.g<(bk.length:Int)/\ch.length=(dr q.code q.var q.ps bk a.g).length/\ch.all fE=true:=by
 unfold bH;cases h1:fo s.xp a.c with
 |none=>simp
 |some x =>
  cases h2:s.pap[a.v.toNat]? with
  |none=>simp
  |some q =>
   cases h3:s.bk[a.v.toNat]? with
   |none=>simp
   |some bk=>simp[and_assoc]
theorem BT(h:bH s a ch=true)(h':bH s b ch'=true)(hc:a.c=b.c)(hg:a.g=b.g):a=b:=by obtain⟨x,q,bk,h1,h2,h3,-⟩:=ii.1 h;obtain⟨x',q',bk',h1',h2',h3',-⟩:=ii.1 h';rw[hc,h1']at h1;injection h1 with h1;subst h1;exact (cJ.eq_iff a b).2 ⟨by omega,hc,hg,by omega⟩
theorem jw:(af s l).length=l.length:=by simp[af]
theorem lL{c:aj}(h:l[i]?=some c):(af s l)[i]?=some (aM s l c):=by simp[af,h]
theorem ff(s:dl)(l:List aj)(c:aj):(aM s l c).cap=c:=by unfold aM;split<;>rfl
theorem de{x:dH}(h:(af s l)[i]?=some x):l[i]?=some x.cap/\x=aM s l x.cap:=by unfold af at h;rw[zP,yO]at h;obtain⟨c,hc,rfl⟩:=h;rw[ff];exact⟨hc,rfl⟩
theorem lK{c:aj}(h:(aM s l c).fit=true):c.kind=1/\bH s (aM s l c).lab c.ch=true/\(aM s l c).st=0/\aQ l c.id=((aM s l c).lab,0):=by
 unfold aM at h⊢;split at h
 ·rename_i hk
  rw[if_pos hk];simp only[yT,decide_eq_true_eq]at h;refine⟨hk,h.2,?_,?_⟩
  ·simp only;rw[if_pos h.1,if_pos h.2]
  ·exact Prod.ext rfl h.1
 ·cases h
theorem ku(l:List aj)(id:gT):(aQ l id).2=0\/(aQ l id).2=4\/(aQ l id).2=6:=by
 unfold aQ iI;split
 ·exact .inr (.inl rfl)
 ·split
  ·split
   ·exact .inr (.inr rfl)
   ·exact .inl rfl
  ·split
   ·exact .inl rfl
   ·exact .inr (.inl rfl)
theorem Ho{c:aj}(hk:c.kind=1)(h:(aM s l c).fit=false):(aM s l c).st=4\/(aM s l c).st=5\/(aM s l c).st=6:=by
 unfold aM at h⊢;rw[if_pos hk]at h⊢;simp only[Bool.and_eq_false_iff,decide_eq_false_iff_not]at h⊢;rcases ku l c.id with e|e|e
 ·rw[if_pos e];rcases h with h|h
  ·exact absurd e h
  ·rw[h];simp
 ·rw[e];simp
 ·rw[e];simp
theorem sw(R:List dH)(i:Nat)(x:dH):dL R i x=1\/dL R i x=2\/dL R i x=3:=by
 unfold dL;split
 ·exact .inr (.inr rfl)
 ·split
  ·exact .inr (.inl rfl)
  ·exact .inl rfl
theorem Bq{x:dH}(h:(af s l)[i]?=some x)(hk:x.cap.kind=1):1<=cR (af s l) i x/\cR (af s l) i x<=6:=by
 unfold cR;split
 ·rcases sw (af s l) i x with e|e|e<;>omega
 ·rename_i hf
  obtain⟨_,hx⟩:=de h;rw[hx]at hf⊢;have:=Ho hk (by rw[<-hx]at hf⊢;simpa using hf);rcases this with e|e|e<;>omega
theorem ro{x:dH}(h:(af s l)[i]?=some x)(hu:cR (af s l) i x=1):x.fit=true/\x.cap.kind=1/\dL (af s l) i x=1:=by
 obtain⟨_,hx⟩:=de h;cases hf:x.fit with
 |true =>
  refine⟨rfl,?_,by unfold cR at hu;rwa [if_pos hf]at hu⟩;rw[hx]at hf;exact (lK hf).1
 |false =>
  unfold cR at hu;rw[hf]at hu;simp only[Bool.false_eq_true,if_false]at hu;by_cases hk:x.cap.kind=1
  ·have:=Ho (s:=s) (l:=l) hk (by rw[<-hx];exact hf);rw[<-hx]at this;omega
  ·rw[hx]at hu;unfold aM at hu;rw[if_neg hk]at hu;cases hu
theorem Cy{R:List dH}{x:dH}(h:dL R i x=1):(R.take i).any (dB x)=false:=by
 unfold dL at h;split at h
 ·omega
 ·split at h
  ·omega
  ·rename_i h2;simpa using h2
theorem CN{x y:dH}(hx:(af s l)[i]?=some x)(hy:(af s l)[k]?=some y)(hik:i<k)(hux:cR (af s l) i x=1)(huy:cR (af s l) k y=1):¬(x.lab.c=y.lab.c/\x.lab.g=y.lab.g):=by
 rintro⟨h1,h2⟩;obtain⟨fx,kx,jx⟩:=ro hx hux;obtain⟨fy,ky,jy⟩:=ro hy huy;have ex:=(de hx).2;have ey:=(de hy).2;have gx:=(lK (s:=s) (l:=l) (c:=x.cap) (by rw[<-ex];exact fx)).2.1;have gy:=(lK (s:=s) (l:=l) (c:=y.cap) (by rw[<-ey];exact fy)).2.1;rw[<-ex]at gx;rw[<-ey]at gy;have hl:=BT gx gy h1 h2;have:=Cy jy;rw[wO]at this;refine this x ?_ ?_
 ·have:((af s l).take k)[i]?=some x:=by rw[yB,if_pos hik];exact hx
  exact zW this
 ·unfold dB;rw[fx,hl];simp
end
theorem ik{α β:Type}{f:Nat->Option β}:(List.range (k+1)).filterMap f=(List.range k).filterMap f++(f k).toList:=by rw[xP,List.filterMap_append];cases h:f k<;>simp[h]
theorem kC(R:List dH)(k:Nat):aZ R (k+1)=aZ R k++(ry R k).toList:=ik (α:=Nat)
theorem jO(R:List dH)(k:Nat):bW R (k+1)=bW R k++(Pm R k).toList:=ik (α:=Nat)
theorem qu{α:Type}{f:Nat->Option α}{R:α->α->Prop}:∀n,(∀i k a b,i<k->k<n->f i=some a->f k=some b->R a b)->((List.range n).filterMap f).Pairwise R
 |0,_=>xE
 |n+1,h=>by
  rw[ik (α:=Nat),xJ];refine⟨qu n fun i k a b hik hk=>h i k a b hik (by omega),?_,fun a ha b hb=>?_⟩
  ·cases f n with
   |none=>exact xE
   |some y=>exact wR _ _
  ·obtain⟨i,hi,ha⟩:=List.mem_filterMap.1 ha;have hb':f n=some b:=by simpa using hb
   exact h i n a b (yX.1 hi) (by omega) ha hb'
theorem Ds{R:List dH}{x:dF}(h:ry R i=some x):∃y,R[i]?=some y/\y.cap.kind=1/\x=lN R i y:=by
 unfold ry at h;rw[Option.bind_eq_some_iff]at h;obtain⟨y,hy,h⟩:=h;split at h
 ·injection h with h;exact⟨y,hy,‹_›,h.symm⟩
 ·cases h
theorem Hi{R:List dH}{x:Pg}(h:Pm R i=some x):∃y,R[i]?=some y/\y.cap.kind=1/\cR R i y=1/\x=Gs y:=by
 unfold Pm at h;rw[Option.bind_eq_some_iff]at h;obtain⟨y,hy,h⟩:=h;split at h
 ·rename_i hk;injection h with h;exact⟨y,hy,hk.1,hk.2,h.symm⟩
 ·cases h
def FB(l:List aj):Prop:=l.Pairwise fun a b=>a.id≠b.id
theorem kO{l:List aj}(h:FB l){a b:aj}(ha:l[i]?=some a)(hb:l[k]?=some b)(hik:i<k):a.id≠b.id:=by obtain⟨h1,rfl⟩:=zY.1 ha;obtain⟨h2,rfl⟩:=zY.1 hb;exact xX.1 h i k h1 h2 hik
theorem KR{a b:Pg}(h:¬(a.cand=b.cand/\a.page=b.page)):dW a b=true\/dW b a=true:=by unfold dW;simp only[decide_eq_true_eq];omega
section
variable {s:dl} {l:List aj}
theorem Ed(h:FB l):(aZ (af s l) l.length).Pairwise fun a b=>bU a b=true\/bU b a=true:=by refine qu _ fun i k a b hik hk ha hb=>?_;obtain⟨x,hx,_,rfl⟩:=Ds ha;obtain⟨y,hy,_,rfl⟩:=Ds hb;exact Jo (kO h (de hx).1 (de hy).1 hik)
theorem KM:(bW (af s l) l.length).Pairwise fun a b=>dW a b=true\/dW b a=true:=by refine qu _ fun i k a b hik hk ha hb=>?_;obtain⟨x,hx,_,hux,rfl⟩:=Hi ha;obtain⟨y,hy,_,huy,rfl⟩:=Hi hb;exact KR (CN hx hy hik hux huy)
theorem GT(h:FB l):iT bU (cQ s l).sts:=sY wm (Ed h)
theorem jv:iT dW (cQ s l).pgs:=sY Kn KM
theorem pp{sts:List dF}{pgs:List Pg}(h1:iT bU sts)(h2:iT dW pgs)(p1:sts.Perm (aZ (af s l) l.length))(p2:pgs.Perm (bW (af s l) l.length)):cQ s l=⟨sts,pgs⟩:=by unfold cQ;rw[qz wm h1 p1,qz Kn h2 p2]
theorem mem_sts{x:dF}:x∈(cQ s l).sts↔∃(i:Nat) (y:dH),(af s l)[i]?=some y/\y.cap.kind=1/\x=lN (af s l) i y:=by
 unfold cQ;simp only;rw[(fX _).mem_iff];unfold aZ;rw[List.mem_filterMap];constructor
 ·rintro⟨i,_,hi⟩;obtain⟨y,h1,h2,h3⟩:=Ds hi;exact⟨i,y,h1,h2,h3⟩
 ·rintro⟨i,y,h1,h2,rfl⟩;refine⟨i,yX.2 ?_,by unfold ry;rw[h1];simp[h2]⟩;have:=(zY.1 h1).1;rwa [jw]at this
theorem mem_pgs{x:Pg}:x∈(cQ s l).pgs↔∃(i:Nat) (y:dH),(af s l)[i]?=some y/\y.cap.kind=1/\cR (af s l) i y=1/\x=Gs y:=by
 unfold cQ;simp only;rw[(fX _).mem_iff];unfold bW;rw[List.mem_filterMap];constructor
 ·rintro⟨i,_,hi⟩;obtain⟨y,h1,h2,h3,h4⟩:=Hi hi;exact⟨i,y,h1,h2,h3,h4⟩
 ·rintro⟨i,y,h1,h2,h3,rfl⟩;refine⟨i,yX.2 ?_,by unfold Pm;rw[h1];simp[h2,h3]⟩;have:=(zY.1 h1).1;rwa [jw]at this
theorem ID:(cQ s l).sts.length=(aZ (af s l) l.length).length:=(fX _).length_eq
theorem Ec:(cQ s l).pgs.length=(bW (af s l) l.length).length:=(fX _).length_eq
theorem OS(R:List dH):∀k,((aZ R k).filter fun x=>decide (x.state=1)).length=(bW R k).length
 |0=>rfl
 |k+1=>by
  rw[kC,jO,xM,yU,yU,OS R k];congr 1
  unfold ry Pm;cases R[k]? with
  |none=>rfl
  |some y =>
   simp only[uL];by_cases hk:y.cap.kind=1
   ·by_cases hu:cR R k y=1
    ·simp[hk,hu,lN]
    ·simp[hk,hu,lN]
   ·simp[hk]
theorem N5:((cQ s l).sts.filter fun x=>decide (x.state=1)).length=(cQ s l).pgs.length:=by rw[Ec,<-OS];exact ((fX _).filter _).length_eq
theorem Pt{x:dF}(h:x∈(cQ s l).sts):1<=x.state/\x.state<=6:=by obtain⟨i,y,h1,h2,rfl⟩:=mem_sts.1 h;exact Bq h1 h2
end
theorem bj.drop{α:Type}{p size:Nat}{R:World->List Value->α->Prop}{w:World}{A:Option Addr}{n c k:Nat}{xs:List α}(h:bj p size R w (.slice A n c) xs)(hk:k<=n):bj p size R w (.slice (if c=k then A else A.map (·.add (k*size))) (n-k) (c-k)) (xs.drop k):=by
 have hl:=h.len;obtain⟨A',c',hv,h1,h2,h4⟩:=h;injection hv with ha hn hc;subst ha;subst hc;have hlk:(xs.drop k).length=n-k:=by rw[wD];omega
 refine⟨_,c-k,by rw[hlk],by omega,by omega,fun i x hx=>?_⟩;rw[vR]at hx;obtain⟨b,off,cs,ha,hb,hcl,hcell,hr⟩:=h4 _ x hx;have:=(zY.1 hx).1;rw[if_neg (by omega),ha];by_cases h0:k*size=0
 ·refine⟨b,off,cs,by simp[Addr.add,h0],hb,hcl,fun j u hu=>?_,hr⟩;have:=hcell j u hu;rwa [xB,h0,yV]at this
 ·refine⟨b,off+k*size,cs,by simp[Addr.add,h0],hb,hcl,fun j u hu=>?_,hr⟩;have:=hcell j u hu;rwa [xB,<-wC off]at this
theorem jB{size:Nat}{css:List (List Value)}(h:∀cs∈css,cs.length=size):css.flatten.length=css.length*size:=by
 induction css with
 |nil=>simp
 |cons a l ih=>rw[wA,yU,ih fun cs hc=>h cs (by simp[hc]),h a (by simp),xQ,xB,Nat.one_mul,Nat.add_comm]
def ah{α:Type}(base e size:Nat)(R:List Value->α->Prop)(w:World)(v:Value)(xs:List α):Prop :=
 ∃css:List (List Value),css.length=xs.length/\(∀cs∈css,cs.length=size)/\w.ownsRow base e size v xs.length css.flatten/\∀(k:Nat) cs x,css[k]?=some cs->xs[k]?=some x->R cs x
section
variable {α:Type} {p base e size:Nat} {R:List Value->α->Prop} {w w':World} {v v':Value} {xs ys:List α}
theorem ah.nil:ah base e size R w (.slice none 0 0) ([]:List α):=⟨[],rfl,fun cs h=>by simp at h,yZ _ _ _ _,fun k cs x h=>by simp at h⟩
theorem ah.ext(h:ah base e size R w v xs)(x:ab w w'):ah base e size R w' v xs:=by obtain⟨css,a,b,c,d⟩:=h;exact⟨css,a,b,ao c x,d⟩
theorem ah.ge(h:ah base e size R w v xs):∀k,v.ownBlock=some k->base<=k:=by obtain⟨css,a,b,c,d⟩:=h;exact aq c
theorem ah.form(h:ah base e size R w v xs):∃A c,v=.slice A xs.length c:=by
 obtain⟨css,a,b,c,d⟩:=h;rcases c.2 with ⟨e,h0⟩|⟨g,cap,cur,e,_⟩
 ·exact⟨none,0,by rw[e,h0]⟩
 ·exact⟨_,_,e⟩
theorem ah.isS{R':World->List Value->α->Prop}(h:ah base e size R w v xs)(hsz:0<size)(hp:p<base)(hR:∀cs x,R cs x->R' w cs x):bj p size R' w v xs:=by obtain⟨css,a,b,c,d⟩:=h;exact bj.of_own css b hsz a c hp fun k cs x h1 h2=>hR _ _ (d k cs x h1 h2)
theorem ah.app{css:List (List Value)}{css2:List (List Value)}(h1:css.length=xs.length)(h2:css2.length=ys.length)(l1:∀cs∈css,cs.length=size)(l2:∀cs∈css2,cs.length=size)(r1:∀(k:Nat) cs x,css[k]?=some cs->xs[k]?=some x->R cs x)(r2:∀(k:Nat) cs x,css2[k]?=some cs->ys[k]?=some x->R cs x)(ho:w.ownsRow base e size v (xs.length+ys.length) (css.flatten++css2.flatten)):ah base e size R w v (xs++ys):=by
 refine⟨css++css2,by simp[h1,h2],fun cs hc=>?_,by rw[List.flatten_append,yU];exact ho,fun k cs x hc hx=>?_⟩
 ·rcases zM.1 hc with hc|hc
  ·exact l1 cs hc
  ·exact l2 cs hc
 ·rcases zU k xs.length with hk|hk
  ·rw[yY (by omega)]at hc;rw[yY hk]at hx;exact r1 k cs x hc hx
  ·rw[yL (by omega),h1]at hc;rw[yL hk]at hx;exact r2 _ cs x hc hx
end
theorem dq{P:Program}{α:Type}(w:World){ops:Array Oper}{rest:List Oper}{o:Oper}{a:Act}{Q:Exit->Act->World->Prop}(hgd:o.guard=none)(s x:Operand)(t:TypeId)(ho:o.op=.call { callee:=.builtin .append,args:=#[s,x],argTypes:=#[t,t] })(base:Nat)(e:TypeId)(i:TypeInfo)(z:Value)(size bytes:Nat)(ht:P.underlying t=some (.slice e))(hi:P.info? e=some i)(hz:i.zero=some z)(hsize:i.size=size)(hby:i.bytes=bytes)(hzs:z.cells.size=size)(hsz:0<size)(R:List Value->α->Prop)(v:Value)(xs:List α)(hs:a.eval s=v)(hown:ah base e size R w v xs)(g:Nat)(us:Array Value)(t':TypeId)(y:α)(hx:a.eval x=.slice (some ⟨g,0,none⟩) 1 1)(hu:w.heap[g]?=some (.cells us t' (0,0)))(hul:us.size=size)(h1:∀u∈us.toList,u.oneCell'=true)(hR:R us.toList y)(hn:xs.length<=1000000)(hb:bytes<=1000)(hbase:base<=w.heap.size)(h:∀v' w',ah base e size R w' v' (xs++[y])->w.grownBy w' v.ownBlock->wpList P ops Q rest (a.put o.dst v') w'):wpList P ops Q (o::rest) a w:=by
 obtain⟨css,h2,h3,h4,h5⟩:=hown;refine cZ w hgd s x t ho base e i z size bytes ht hi hz hsize hby hzs hsz v xs.length css.flatten hs h4 g us t' hx hu hul h1 hn hb hbase fun v' w' ho hg=>h v' w' (ah.app (css2:=[us.toList]) h2 (by simp) h3 (fun cs hc=>?_) h5 (fun k cs x hc hx=>?_) (by simpa using ho)) hg
 ·obtain rfl:cs=us.toList:=by simpa using hc
  simpa using hul
 ·obtain rfl:k=0:=by have:=(zY.1 hx).1;simp at this;exact this
  simp at hc hx;subst hc;subst hx;exact hR
section
variable {p:Nat} {w w' wx:World} {v:Value} {s:dl} {t:r6} {L:BL}
theorem aR.op(h:aR p w v s):∃(AP:Option Addr) (nP cP:Nat) (AB:Option Addr) (nB cB:Nat) (AX:Option Addr) (nX cX:Nat),v=.agg #[.int .i64 s.num,.slice AP nP cP,.slice AB nB cB,.slice AX nX cX]:=by obtain⟨vP,vB,vX,rfl,hP,hB,hX,-⟩:=h;obtain⟨AP,nP,cP,rfl,-⟩:=hP.open_;obtain⟨AB,nB,cB,rfl,-⟩:=hB.open_;obtain⟨AX,nX,cX,rfl,-⟩:=hX.open_;exact⟨_,_,_,_,_,_,_,_,_,rfl⟩
theorem aK.op(h:aK p w v t):∃(AS:Option Addr) (cS:Nat) (AG:Option Addr) (cG:Nat),v=.agg #[.slice AS t.sts.length cS,.slice AG t.pgs.length cG]:=by obtain⟨vS,vG,rfl,hS,hG⟩:=h;obtain⟨AS,nS,cS,rfl,-⟩:=hS.open_;obtain⟨AG,nG,cG,rfl,-⟩:=hG.open_;rw[hS.len,hG.len];exact⟨_,_,_,_,rfl⟩
structure LF (p:Nat) (w wx:World) (L:BL):Prop where
 fr:Fr p w wx L
 tb0:cK w
 p2:2<=p
theorem LF.tb(h:LF p w wx L):cK wx:=h.tb0.xt h.fr.xt h.p2
theorem LF.start(h:bz w p)(ht:cK w)(hp:2<=p):LF p w w []:=⟨Fr.start h,ht,hp⟩
theorem LF.step(h:LF p w wx L)(hx:XT p wx w')(ht:bz w' p):LF p w w' L:=⟨h.fr.step hx ht,h.tb0,h.p2⟩
theorem LF.ext(h:LF p w wx L)(hx:ab wx w'):LF p w w' L:=⟨h.fr.ext hx,h.tb0,h.p2⟩
theorem LF.push(h:LF p w wx L)(cs:Array Value)(t:TypeId){n:Nat}(hn:wx.heap.size=n):LF p w (wx.alloc (.cells cs t)) (L++[(n,cs,t)]):=⟨h.fr.push cs t hn,h.tb0,h.p2⟩
theorem LF.grown(h:LF p w wx L){row:Option Nat}(hg:wx.grownBy w' row)(hr:∀(k:Nat) x,L[k]?=some x->row≠some x.1)(hb:∀k,row=some k->w.heap.size<=k):LF p w w' L:=⟨h.fr.grown hg hr hb,h.tb0,h.p2⟩
theorem LF.at_{b:Nat}{cs:Array Value}{t:TypeId}(h:LF p w wx L)(k:Nat)(hk:L[k]?=some (b,cs,t)):Bk wx b cs t:=h.fr.at_ k hk
theorem LF.lt(h:LF p w wx L):p<wx.heap.size:=h.fr.lt
theorem LF.fin{w0:World}(h:LF w0.heap.size w wx L)(he:ab w0 w):ab w0 wx:=h.fr.xt.fresh he (zX _)
end
theorem bj.xre{α:Type}{q size:Nat}{R R':World->List Value->α->Prop}{w w':World}{v:Value}{xs:List α}(h:bj p size R w v xs)(e:XT p w w')(hq:w.heap.size<=q)(hsz:0<size)(hR:∀cs x,R w cs x->R' w' cs x):bj q size R' w' v xs:=by obtain⟨A,c,hv,h1,h2,h4⟩:=h;refine⟨A,c,hv,h1,h2,fun k x hx=>?_⟩;obtain⟨b,off,cs,ha,hb,hcl,hcell,hr⟩:=h4 k x hx;have:=bK (hcell 0 cs[0] (zV (by omega)));simp at this;exact⟨b,off,cs,ha,by omega,hcl,fun j u hu=>e.cell (hcell j u hu) hb,hR _ _ hr⟩
theorem ak.xre{q:Nat}{w w':World}{v:Value}(h:ak p w v l)(e:XT p w w')(hq:w.heap.size<=q):ak q w' v l:=by obtain⟨A,c,hv,h1,h2,h3,h5,h4⟩:=h;exact⟨A,c,hv,h1,h2,h3,h5,fun k x hx=>by obtain⟨b,off,ha,hb,hc⟩:=h4 k x hx;have:=bK hc;simp at this;exact⟨b,off,ha,by omega,e.cell hc hb⟩⟩
theorem aR.xre{p q:Nat}{w w':World}{v:Value}{s:dl}(h:aR p w v s)(e:XT p w w')(hq:w.heap.size<=q):aR q w' v s:=by
 obtain⟨vP,vB,vX,h0,h1,h2,h3,h4⟩:=h;refine⟨vP,vB,vX,h0,bj.xre h1 e hq (by decide) fun cs x=>?_,bj.xre h2 e hq (by decide) fun cs x=>?_,bj.xre h3 e hq (by decide) fun cs x hr=>hr,h4⟩
 ·rintro⟨u,rfl,a,b,c⟩;exact⟨u,rfl,bj.xre a e hq (by decide) fun cs x hr=>hr,b,c⟩
 ·rintro⟨u,rfl,a⟩;exact⟨u,rfl,bj.xre a e hq (by decide) fun cs x=>by rintro⟨u',rfl,b⟩;exact⟨u',rfl,b.xre e hq⟩⟩
theorem Kw{a b c d:Value}(h:Value.agg #[a,b]=.agg #[c,d]):a=c/\b=d:=by injection h with h;injection h with h;injection h with h1 h2;injection h2 with h2;exact⟨h1,h2⟩
theorem E0(p c g v:Int):(mH p c g v).take 6=bv (gK p c g v):=by unfold mH pQ;rw[List.take_left' (by rw[bt];rfl)]
theorem o8{p:Int}(h:dj p c g v=true)(i:Nat)(x:Int)(hx:(gK p c g v)[i]?=some x):dz (bv (gK p c g v)) i=x:=by have h1:(wI (bv (gK p c g v))).getD i 0=dz (bv (gK p c g v)) i:=Cn _ _;rw[DB h,xU,hx]at h1;exact h1.symm
theorem EU{p:Int}(h:dj p c g v=true):iZ (eH (mH p c g v)) p c g v 0 0:=by
 have hl:=kK p c g v;obtain⟨u1,u2⟩:=CE (CP hl) (ET hl);refine⟨fun e=>absurd u2 e,fun _=>⟨bv (gK p c g v),0,0,?_,fun e=>absurd rfl e,fun _=>?_⟩⟩
 ·rw[u1,EA hl];refine⟨fun e=>?_,fun _=>.inl ⟨mH p c g v,0,Fv (Fu _ _ _ _),?_,rfl,rfl⟩⟩
  ·rw[E7 (by omega) (by omega)]at e;cases e
  ·rw[aT,hl,<-E0]
 ·have hb:=ju.1 h;have h0:=o8 h 0 _ rfl;have h1:=o8 h 1 _ rfl;have h2:=o8 h 2 _ rfl;have h3:=o8 h 3 _ rfl;have h4:=o8 h 4 _ rfl;have h5:=o8 h 5 _ rfl;have hc:fK (bv (gK p c g v))=c:=by unfold fK;rw[h1,h2,h3];omega
  rw[hc,h0,h4,h5];exact⟨fun e=>by omega,fun _=>⟨rfl,rfl,rfl,rfl,rfl,rfl⟩⟩
theorem Bi{p:Int}(h:dj p c g v=true):dR (eH (mH p c g v))=some ⟨p,c,g,v⟩:=mA (EU h)
end Go.Proofs.YtpaidaphacoblaaGreatDoor

