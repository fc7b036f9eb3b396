import Derived.Test.YtjgfgdcaocbfhaaGreatH18
import Derived.Test.YtjgfgdcaocbfhaaGreatCapU
set_option linter.all false
set_option maxRecDepth 100000
set_option maxHeartbeats 0
namespace Go.Proofs.YtjgfgdcaocbfhaaGreat
open Go.Value renaming int→D,slice→I
open Go.IntKind renaming i64→G
open Go.RowKit _root_.Go.Proofs.Tryz
variable {l:List Int} {c i k n p size:Nat} {P:Program} {ops:Array Oper} {a:Act} {w:World} {A:Option Addr}
def dp(d f l:Int):Bool:=decide (1≤f∧f≤d∧d≤9∧1≤l∧l≤9)
theorem fm(d f l:Int)(w:World) :
  Calls prog 38 #[.agg #[D G d,D G f,D G l]] w fun e w'=>e=.returned (.bool (dp d f l))∧ab w w':=by
 go_enter func38,ntmps38
 go_wp2
 all_goals (go_ret;exact⟨aa (by first|(simp[dp];omega)|(rw[yE];simp[dp];omega)),(zE _).alloc _⟩)
theorem ey(d f l:Int)(w:World) :
  Calls prog 41 #[.agg #[D G d,D G f,D G l]] w fun e w'=>e=.returned (.bool (dp d f l))∧ab w w':=by
 go_enter func41,ntmps41
 go_wp2
 all_goals (go_ret;exact⟨aa (by first|(simp[dp];omega)|(rw[yE];simp[dp];omega)),(zE _).alloc _⟩)
def bd(x:Int):Bool:=decide (0≤x∧x≤9)
theorem pi{p:Int→Bool}{x:Int}(h:l[k]?=some x):(l.take (k+1)).all p=((l.take k).all p&&p x):=by rw[ag h];simp
theorem C4{p:Int→Bool}{x:Int}(h:l[k]?=some x)(hp:p x=false):l.all p=false:=by rw[xR];exact⟨x,zU h,by simp[hp]⟩
theorem lL(v:Value)(l:List Int)(w:World)(h:ao p w v l) :
  Calls prog 98 #[v] w fun e w'=>e=.returned (.bool (l.all bd))∧w=w':=by
 obtain⟨A,n,c,rfl,hnc,hc,hnn,HL⟩:=h.open_;have H:=zZ h;clear h;go_enter func98,ntmps98
 go_wp2
 go_loop [3] (fun i=>∃k:Nat,k≤n∧i=D G k∧Hid ((l.take k).all bd=true)) (fun i=>n-(intOf i).toNat)
 case atStart=>exact⟨0,yK _,rfl,by simp[Hid]⟩
 case round =>
  obtain⟨k,hk,rfl,HK⟩:=hrel;by_cases hlt:k<n
  ·obtain⟨b,off,x,rfl,hcx,HX,hx1,hx2⟩:=H.out.at_ hlt;go_wp2
   all_goals first
    |(go_ret;exact⟨aa (C4 HX.out (by simp[bd];omega)).symm,rfl⟩)
    |(go_round
      case rel=>exact⟨k+1,by omega,by go_num,by show (l.take (k+1)).all bd=true;rw[pi HX.out,HK.out];simp[bd];omega⟩
      case measure=>simp[intOf];omega)
  ·go_wp2
   go_ret
   refine⟨aa ?_,rfl⟩;have:=HK.out;rw[aD (by have:=HL.out;omega)]at this;rw[this]
theorem uc(x:Int)(w:World) :
  Calls prog 135 #[D G x] w fun e w'=>e=.returned (.bool (bd x))∧w=w':=by
 go_enter func135,ntmps135
 go_wp2
 all_goals (go_ret;exact⟨aa (by first|(simp[bd];omega)|(rw[yE];simp[bd];omega)),rfl⟩)
theorem lR(x:Int)(w:World) :
  Calls prog 134 #[D G x] w fun e w'=>e=.returned (.bool (!bd x))∧w=w':=by
 go_enter func134,ntmps134
 go_wp2_with (go_at_call 135;refine (uc _ _).mono ?_;rintro e w' ⟨rfl,rfl⟩);go_ret
 exact⟨rfl,rfl⟩
def uz(p:Int→Bool)(l:List Int):Int:=if l.any p then (l.findIdx p:Int) else -1
theorem uo{p:Int→Bool}{x:Int}(h:l[k]?=some x)(hp:p x=true)(hn:(l.take k).all (fun x=>!p x)=true):(k:Int)=uz p l:=by
 obtain⟨hk,rfl⟩:=zY.1 h;have:l.any p=true:=xJ.2 ⟨_,xX hk,hp⟩;rw[uz,if_pos this];congr 1
 symm
 rw[List.findIdx_eq hk];refine⟨hp,fun j hj=>?_⟩;have:=yS.1 hn l[j] (by rw[List.mem_take_iff_getElem];exact⟨j,by omega,rfl⟩);simpa using this
theorem rj{p:Int→Bool}(hn:l.all (fun x=>!p x)=true):-1=uz p l:=by rw[uz,if_neg];rw[xJ];rintro⟨x,hx,hp⟩;have:=yS.1 hn x hx;simp[hp]at this
theorem um(p:Int→Bool)(l:List Int):decide (0≤uz p l)=l.any p:=by unfold uz;split<;>simp_all
theorem AU(p:Int→Bool)(l:List Int):(!l.any (fun x=>!p x))=l.all p:=by induction l<;>simp_all
theorem rA(v:Value)(l:List Int)(w:World)(h:ao p w v l) :
  Calls prog 154 #[v,.func (.func 134) #[] #[]] w fun e w'=>e=.returned (D G (uz (fun x=>!bd x) l))∧w=w':=by
 obtain⟨A,n,c,rfl,hnc,hc,hnn,HL⟩:=h.open_;have H:=zZ h;clear h;go_enter func154,ntmps154
 go_wp2
 go_loop [8] (fun i=>∃k:Nat,k≤n∧i=D G k∧Hid ((l.take k).all (fun x=>!!bd x)=true)) (fun i=>n-(intOf i).toNat)
 case atStart=>exact⟨0,yK _,rfl,by simp[Hid]⟩
 case round =>
  obtain⟨k,hk,rfl,HK⟩:=hrel;by_cases hlt:k<n
  ·obtain⟨b,off,x,rfl,hcx,HX,hx1,hx2⟩:=H.out.at_ hlt;cases hb:bd x
   ·have HB:=zZ hb;clear hb;go_wp2_with (go_at_call 134;refine (lR _ _).mono ?_;rintro e w' ⟨rfl,rfl⟩;rw[HB.out]);go_ret
    exact⟨ah (uo HX.out (by simp[HB.out]) HK.out),rfl⟩
   ·have HB:=zZ hb;clear hb;go_wp2_with (go_at_call 134;refine (lR _ _).mono ?_;rintro e w' ⟨rfl,rfl⟩;rw[HB.out]);go_round
    case rel=>exact⟨k+1,by omega,by go_num,by show (l.take (k+1)).all _=true;rw[pi HX.out,HK.out];simp[HB.out]⟩
    case measure=>simp[intOf];omega
  ·go_wp2
   go_ret
   have:=HK.out;rw[aD (by have:=HL.out;omega)]at this;exact⟨ah (rj this),rfl⟩
theorem m6(v:Value)(l:List Int)(w:World)(h:ao p w v l) :
  Calls prog 125 #[v,.func (.func 134) #[] #[]] w fun e w'=>e=.returned (.bool (l.any (fun x=>!bd x)))∧w=w':=by
 have H:=zZ h;clear h;go_enter func125,ntmps125
 go_wp2_with (go_at_call 154;refine (rA _ l _ H.out).mono ?_;rintro e w' ⟨rfl,rfl⟩);go_ret
 exact⟨aa (um _ _),rfl⟩
theorem hJ(v:Value)(l:List Int)(w:World)(h:ao p w v l) :
  Calls prog 109 #[v] w fun e w'=>e=.returned (.bool (l.all bd))∧w=w':=by
 have H:=zZ h;clear h;go_enter func109,ntmps109
 go_wp2_with (go_at_call 125;refine (m6 _ l _ H.out).mono ?_;rintro e w' ⟨rfl,rfl⟩);go_ret
 exact⟨aa (AU _ _),rfl⟩
open Classical in
noncomputable def ki(s:List UInt8):Option cU:=if h:∃l:cU,∃n,kn s l.p l.c l.g l.v n 0 then some h.choose else none
theorem xw{s:List UInt8}{p c g v n:Int}(h:kn s p c g v n 0):ki s=some ⟨p,c,g,v⟩:=by
 have hx:∃l:cU,∃n,kn s l.p l.c l.g l.v n 0:=⟨⟨p,c,g,v⟩,n,h⟩
 unfold ki;rw[dif_pos hx];obtain⟨m,hm⟩:=hx.choose_spec;have:=qH hm h;rw[show hx.choose=⟨p,c,g,v⟩ from (cU.eq_iff _ _).2 ⟨this.1,this.2.1,this.2.2.1,this.2.2.2.1⟩]
theorem zl{s:List UInt8}{p c g v n k:Int}(h:kn s p c g v n k)(hk:k≠0):ki s=none:=by unfold ki;rw[dif_neg];rintro⟨l,m,hm⟩;exact hk (qH h hm).2.2.2.2.2
def lN(id:jd)(c:aF):Bool:=(decide (c.kind=2)||decide (c.kind=3))&&decide (c.tgt=id)
def ic(id:jd)(c:aF):Bool:=decide (c.kind=1)&&decide (c.id=id)
noncomputable def se(at_ last:Option aF):cU×Int:=match at_ with
 |none=>(cU.zero,4)
 |some a=>match last with
  |some d=>if d.kind=3 then (cU.zero,6) else (d.lab,0)
  |none=>match ki a.str with
   |some x=>(x,0)
   |none=>(cU.zero,4)
noncomputable def cO(l:List aF)(id:jd):cU×Int:=se (l.find? (ic id)) ((l.filter (lN id)).getLast?)
def aJ(l:List dF)(c:Int):Option dF:=l.find? fun x=>decide (x.cand=c)
noncomputable def be(s:aZ)(lab:cU)(ch:List Int):Bool:=match aJ s.xp lab.c with
 |some x=>decide (lab.p=s.num)&&(decide (x.var=lab.v)&&(match s.pap[lab.v.toNat]?,s.bk[lab.v.toNat]? with
  |some q,some b=>decide (0≤lab.g∧lab.g<(b.length:Int))&&(decide (ch.length=(aA q.code q.var q.ps b lab.g).length)&&ch.all bd)
  |_,_=>false))
 |none=>false
noncomputable def da(s:aZ)(lab:cU)(ch:List Int):Bool:=decide (aw s=0)&&be s lab ch
structure ft where
 cap:aF
 lab:cU
 st:Int
 fit:Bool
noncomputable def dN(s:aZ)(l:List aF)(c:aF):ft :=
 if c.kind=1 then ⟨c,(cO l c.id).1,if (cO l c.id).2=0 then (if be s (cO l c.id).1 c.ch then 0 else 5) else (cO l c.id).2,decide ((cO l c.id).2=0)&&be s (cO l c.id).1 c.ch⟩
 else ⟨c,cU.zero,0,false⟩
noncomputable def bi(s:aZ)(l:List aF):List ft:=l.map (dN s l)
def fv(x y:ft):Bool:=y.fit&&decide (y.lab=x.lab)
def it(x y:ft):Bool:=!(decide (y.cap.cont=x.cap.cont)&&decide (y.cap.ch=x.cap.ch))
def fi(l:List ft)(i:Nat)(x:ft):Int:=if (l.any fun y=>fv x y&&it x y) then 3 else if (l.take i).any (fv x) then 2 else 1
def fD(l:List ft)(i:Nat)(x:ft):Int:=if x.fit then fi l i x else x.st
def nY(l:List ft)(i:Nat)(x:ft):aY:=⟨x.cap.id,fD l i x,x.lab⟩
def G2(x:ft):Pg:=⟨x.lab.c,x.lab.g,x.cap.cont,x.cap.ch,x.cap.id⟩
def oh(l:List ft)(i:Nat):Option aY:=(l[i]?).bind fun x=>if x.cap.kind=1 then some (nY l i x) else none
def Gs(l:List ft)(i:Nat):Option Pg:=(l[i]?).bind fun x=>if x.cap.kind=1∧fD l i x=1 then some (G2 x) else none
def bJ(l:List ft)(k:Nat):List aY:=(List.range k).filterMap (oh l)
def du(l:List ft)(k:Nat):List Pg:=(List.range k).filterMap (Gs l)
def aW(a b:aY):Bool:=gY a.scan b.scan
def cM(a b:Pg):Bool:=decide (a.cand<b.cand∨(a.cand=b.cand∧a.page<b.page))
noncomputable def eX(s:aZ)(l:List aF):en:=⟨bz aW (bJ (bi s l) l.length),bz cM (du (bi s l) l.length)⟩
theorem Fh:ue aW:=⟨fun a=>Ai.irr a.scan,fun a b c=>Ai.tr a.scan b.scan c.scan⟩
theorem GN:ue cM:=⟨fun a=>by unfold cM;simp,fun a b c h1 h2=>by unfold cM at *;simp only[decide_eq_true_eq]at *;omega⟩
section
variable {s:aZ} {l:List aF} {a b:cU} {ch ch':List Int}
theorem jS:be s a ch=true↔∃x q bk,aJ s.xp a.c=some x∧a.p=s.num∧x.var=a.v∧s.pap[a.v.toNat]?=some q∧s.bk[a.v.toNat]?=some bk∧0≤a.g∧a.g<(bk.length:Int)∧ch.length=(aA q.code q.var q.ps bk a.g).length∧ch.all bd=true:=by
 unfold be;cases h1:aJ s.xp a.c with
 |none=>simp
 |some x =>
  cases h2:s.pap[a.v.toNat]? with
  |none=>simp
  |some q =>
   cases h3:s.bk[a.v.toNat]? with
   |none=>simp
   |some bk=>simp[and_assoc]
theorem tR:(bi s l).length=l.length:=by simp[bi]
theorem AM{c:aF}(h:l[i]?=some c):(bi s l)[i]?=some (dN s l c):=by simp[bi,h]
theorem nQ(s:aZ)(l:List aF)(c:aF):(dN s l c).cap=c:=by unfold dN;split<;>rfl
theorem lj{x:ft}(h:(bi s l)[i]?=some x):l[i]?=some x.cap∧x=dN s l x.cap:=by unfold bi at h;rw[zL,yI]at h;obtain⟨c,hc,rfl⟩:=h;rw[nQ];exact⟨hc,rfl⟩
theorem tJ(l:List aF)(id:jd):(cO l id).2=0∨(cO l id).2=4∨(cO l id).2=6:=by
 unfold cO se;split
 ·exact .inr (.inl rfl)
 ·split
  ·split
   ·exact .inr (.inr rfl)
   ·exact .inl rfl
  ·split
   ·exact .inl rfl
   ·exact .inr (.inl rfl)
theorem GR{c:aF}(hk:c.kind=1)(h:(dN s l c).fit=false):(dN s l c).st=4∨(dN s l c).st=5∨(dN s l c).st=6:=by
 unfold dN at h⊢;rw[if_pos hk]at h⊢;simp only[Bool.and_eq_false_iff,decide_eq_false_iff_not]at h⊢;rcases tJ l c.id with e|e|e
 ·rw[if_pos e];rcases h with h|h
  ·exact absurd e h
  ·rw[h];simp
 ·rw[e];simp
 ·rw[e];simp
theorem Co(R:List ft)(i:Nat)(x:ft):fi R i x=1∨fi R i x=2∨fi R i x=3:=by
 unfold fi;split
 ·exact .inr (.inr rfl)
 ·split
  ·exact .inr (.inl rfl)
  ·exact .inl rfl
theorem oY{x:ft}(h:(bi s l)[i]?=some x)(hk:x.cap.kind=1):1≤fD (bi s l) i x∧fD (bi s l) i x≤6:=by
 unfold fD;split
 ·rcases Co (bi s l) i x with e|e|e<;>omega
 ·rename_i hf
  obtain⟨_,hx⟩:=lj h;rw[hx]at hf⊢;have:=GR hk (by rw[←hx]at hf⊢;simpa using hf);rcases this with e|e|e<;>omega
end
theorem eR{α β:Type}{f:Nat→Option β}:(List.range (k+1)).filterMap f=(List.range k).filterMap f++(f k).toList:=by rw[yC,List.filterMap_append];cases h:f k<;>simp[h]
theorem gJ(R:List ft)(k:Nat):bJ R (k+1)=bJ R k++(oh R k).toList:=eR (α:=Nat)
theorem iJ(R:List ft)(k:Nat):du R (k+1)=du R k++(Gs R k).toList:=eR (α:=Nat)
theorem FM{R:List ft}{x:aY}(h:oh R i=some x):∃y,R[i]?=some y∧y.cap.kind=1∧x=nY R i y:=by
 unfold oh at h;rw[Option.bind_eq_some_iff]at h;obtain⟨y,hy,h⟩:=h;split at h
 ·injection h with h;exact⟨y,hy,‹_›,h.symm⟩
 ·cases h
section
variable {s:aZ} {l:List aF}
theorem Fy{x:aY}:x∈(eX s l).sts↔∃(i:Nat) (y:ft),(bi s l)[i]?=some y∧y.cap.kind=1∧x=nY (bi s l) i y:=by
 unfold eX;simp only;rw[(fg _).mem_iff];unfold bJ;rw[wA];constructor
 ·rintro⟨i,_,hi⟩;obtain⟨y,h1,h2,h3⟩:=FM hi;exact⟨i,y,h1,h2,h3⟩
 ·rintro⟨i,y,h1,h2,rfl⟩;refine⟨i,zB.2 ?_,by unfold oh;rw[h1];simp[h2]⟩;have:=(zY.1 h1).1;rwa [tR]at this
theorem Bo:(eX s l).pgs.length=(du (bi s l) l.length).length:=(fg _).length_eq
theorem AT(R:List ft):∀k,((bJ R k).filter fun x=>decide (x.state=1)).length=(du R k).length
 |0=>rfl
 |k+1=>by
  rw[gJ,iJ,yJ,zI,zI,AT R k];congr 1
  unfold oh Gs;cases R[k]? with
  |none=>rfl
  |some y =>
   simp only[Option.bind_some];by_cases hk:y.cap.kind=1
   ·by_cases hu:fD R k y=1
    ·simp[hk,hu,nY]
    ·simp[hk,hu,nY]
   ·simp[hk]
theorem Ef:((eX s l).sts.filter fun x=>decide (x.state=1)).length=(eX s l).pgs.length:=by rw[Bo,←AT];exact ((fg _).filter _).length_eq
theorem GG{x:aY}(h:x∈(eX s l).sts):1≤x.state∧x.state≤6:=by obtain⟨i,y,h1,h2,rfl⟩:=Fy.1 h;exact oY h1 h2
end
theorem jZ(t s q k ct ts tq lp lc lg lv:Int)(b:ByteArray)(A:Option Addr)(n cc:Nat)(w:World) :
  Calls prog 58 #[.agg #[D G t,D G s,D G q,D G k,.string b,D G ct,I A n cc,D G ts,D G tq,D G lp,D G lc,D G lg,D G lv]] w fun e w'=>e=.returned (.agg #[D G s,D G q])∧ab w w':=by
 go_enter func58,ntmps58
 go_wp2_with fail;exact bodyPost_ret (v:=.agg #[D G s,D G q]) (by simp[results,results58,go_sem]) rfl ⟨rfl,((zE _).alloc _).alloc _⟩
theorem mK(s q s' q':Int)(w:World) :
  Calls prog 71 #[.agg #[D G s,D G q],.agg #[D G s',D G q']] w fun e w'=>e=.returned (.bool (gY ⟨s,q⟩ ⟨s',q'⟩))∧ab w w':=by
 go_enter func71,ntmps71
 go_wp2
 all_goals (go_ret;exact⟨aa (by first|(rw[yE];simp[gY];omega)|simp_all [gY]),((zE _).alloc _).alloc _⟩)
theorem lB(c g ct s q c' g' ct' s' q':Int)(A A':Option Addr)(n cc n' cc':Nat)(w:World) :
  Calls prog 72 #[.agg #[D G c,D G g,D G ct,I A n cc,D G s,D G q],.agg #[D G c',D G g',D G ct',I A' n' cc',D G s',D G q']] w fun e w'=>e=.returned (.bool (decide (c<c'∨(c=c'∧g<g'))))∧ab w w':=by
 go_enter func72,ntmps72
 go_wp2
 all_goals (go_ret;exact⟨aa (by first|(rw[yE];simp;omega)|simp_all),((zE _).alloc _).alloc _⟩)
theorem jM(v:Value)(s:aZ)(c:Int)(w:World)(hs:aN p w v s) :
  Calls prog 47 #[v,D G c] w fun e w'=>(∃a b d:Int,e=.returned (.tuple #[.agg #[D G a,D G b,D G d],.bool (aJ s.xp c).isSome])∧(aJ s.xp c).getD ⟨0,0,0⟩=⟨a,b,d⟩)∧ab w w':=by
 obtain⟨vP,vB,vX,rfl,hP,hB,hX,hnum⟩:=hs;obtain⟨AP,nP,cP,rfl,-⟩:=hP.open_;obtain⟨AB,nB,cB,rfl,-⟩:=hB.open_;obtain⟨A,n,cc,rfl,hnc,hcc,hnn,HL⟩:=hX.open_;have HX:Bx (d7 p w (I A n cc) s.xp):=⟨hX⟩
 have HF:Bx (ae w ((w.alloc (.cells #[D G s.num,I AP nP cP,I AB nB cB,I A n cc] 27)).alloc (.cells #[D G 0,D G 0,D G 0] 83)) [(w.heap.size,#[D G s.num,I AP nP cP,I AB nB cB,I A n cc],27),(w.heap.size+1,#[D G 0,D G 0,D G 0],83)]):=⟨((ae.start w).push _ _ rfl).push _ _ (by simp)⟩
 clear hP hB hX hnum;go_enter func47,ntmps47
 go_upto_region 1 with (fail)
 obtain⟨w1,hw1⟩:=nm (((w.alloc (.cells #[D G s.num,I AP nP cP,I AB nB cB,I A n cc] 27)).alloc (.cells #[D G 0,D G 0,D G 0] 83)):World);rw[←hw1]at HF;rw[←hw1];clear hw1;have b3:=(HF.out.at_ 0 rfl).c 3 rfl;obtain⟨z0,z1,z2⟩:=(HF.out.at_ 1 rfl).p3 rfl;have f0:=(HF.out.at_ 1 rfl).froz;have f1:=f0;have f2:=f0;go_wp2_with fail;go_loop [6] (fun s6=>∃k:Nat,s6=D G k∧k≤n∧Bx (∀(j:Nat) x,j<k→s.xp[j]?=some x→decide (x.cand=c)=false)) (fun k=>n-(intOf k).toNat)
 case atStart=>exact⟨0,rfl,by omega,⟨fun j x hj=>by omega⟩⟩
 case round =>
  obtain⟨k,rfl,hk,HN⟩:=hrel;by_cases hkn:k<n
  ·obtain⟨b,off,_,_,rfl,-⟩:=HX.out.at_ hkn;obtain⟨cs,⟨xc,xe,xv⟩,-,hc0,hR,hx⟩:=(HX.out.ext (iK.stab p) HF.out.xt).cell_ hkn;obtain⟨x0,x1,x2⟩:=oI hc0 hR;simp only at x0 x1 x2;clear hc0 hR;by_cases hcx:xc=c
   ·have HFD:Bx (aJ s.xp c=some ⟨xc,xe,xv⟩):=⟨by unfold aJ;exact iY hx.out (decide_eq_true hcx) fun j y hj hy=>HN.out j y hj hy⟩
    have hcb:(xc==c)=true:=by rw[hcx];simp
    replace hcx:=zZ hcx;go_wp2_with fail;have h9:=HF.out.setAll 1 rfl [D G xc,D G xe,D G xv] rfl;refine bodyPost_ret (v:=.tuple #[.agg #[D G xc,D G xe,D G xv],.bool true]) (by simp[results,results47,go_sem,z0,z1,z2]) rfl ⟨⟨xc,xe,xv,by rw[HFD.out];rfl,by rw[HFD.out];rfl⟩,h9.xt⟩
   ·have hcb:(xc==c)=false:=beq_eq_false_iff_ne.2 hcx;replace hcx:=zZ hcx;go_wp2_with fail;go_round
    case rel=>exact⟨k+1,by go_num,by omega,⟨fun j y hj hy=>by rcases zV j k with h|h;exact HN.out j y h hy;obtain rfl:j=k:=(by omega);rw[hx.out]at hy;injection hy with hy;subst hy;exact decide_eq_false hcx.out⟩⟩
    case measure=>simp[intOf];omega
  ·obtain rfl:k=n:=by omega
   have HFD:Bx (aJ s.xp c=none):=⟨by unfold aJ;exact lT fun j y hy=>HN.out j y (by have:=(zY.1 hy).1;have:=HL.out;omega) hy⟩
   go_wp2_with fail;have h9:=HF.out.setAll 1 rfl [D G 0,D G 0,D G 0] rfl;refine bodyPost_ret (v:=.tuple #[.agg #[D G 0,D G 0,D G 0],.bool false]) (by simp[results,results47,go_sem,z0,z1,z2]) rfl ⟨⟨0,0,0,by rw[HFD.out];rfl,by rw[HFD.out];rfl⟩,h9.xt⟩
theorem bg.drop{α:Type}{p size:Nat}{R:World→List Value→α→Prop}{w:World}{A:Option Addr}{n c k:Nat}{xs:List α}(h:bg p size R w (I A n c) xs)(hk:k≤n):bg p size R w (I (if c=k then A else A.map (·.add (k*size))) (n-k) (c-k)) (xs.drop k):=by
 have hl:=h.len;obtain⟨A',c',hv,h1,h2,h4⟩:=h;injection hv with ha hn hc;subst ha;subst hc;have hlk:(xs.drop k).length=n-k:=by rw[xS];omega
 refine⟨_,c-k,by rw[hlk],by omega,by omega,fun i x hx=>?_⟩;rw[xB]at hx;obtain⟨b,off,cs,ha,hb,hcl,hcell,hr⟩:=h4 _ x hx;have:=(zY.1 hx).1;rw[if_neg (by omega),ha];by_cases h0:k*size=0
 ·refine⟨b,off,cs,by simp[Addr.add,h0],hb,hcl,fun j u hu=>?_,hr⟩;have:=hcell j u hu;rwa [xQ,h0,yV]at this
 ·refine⟨b,off+k*size,cs,by simp[Addr.add,h0],hb,hcl,fun j u hu=>?_,hr⟩;have:=hcell j u hu;rwa [xQ,←Nat.add_assoc off]at this
theorem Gg{α:Type}{C:Nat→List Value→α→Prop}:∀(xs:List α),(∀k x,xs[k]?=some x→∃cs:List Value,cs.length=size∧C k cs x) →
  ∃css:List (List Value),css.length=xs.length∧(∀cs∈css,cs.length=size)∧∀k cs x,css[k]?=some cs→xs[k]?=some x→C k cs x:=by
 intro xs;induction xs using jN with
 |h0=>exact fun _=>⟨[],rfl,fun cs h=>by simp at h,fun k cs x h=>by simp at h⟩
 |h1 xs x ih =>
  intro h;obtain⟨css,h1,h2,h3⟩:=ih fun k y hk=>h k y (by rw[zH (zY.1 hk).1];exact hk);obtain⟨cs,hc1,hc2⟩:=h xs.length x (by simp);refine⟨css++[cs],by simp[h1],fun z hz=>?_,fun k z y hz hy=>?_⟩
  ·rcases zC.1 hz with hz|hz
   ·exact h2 z hz
   ·obtain rfl:z=cs:=by simpa using hz
    exact hc1
  ·rcases zV k xs.length with hk|hk
   ·rw[zH (by omega)]at hz;rw[zH hk]at hy;exact h3 k z y hz hy
   ·have hk1:=(zY.1 hy).1;simp at hk1;obtain rfl:k=xs.length:=by omega
    rw[yT (by omega),h1]at hz;rw[yT (by omega)]at hy;simp at hz hy;subst hz;subst hy;exact hc2
theorem nV{css:List (List Value)}(h:∀cs∈css,cs.length=size):css.flatten.length=css.length*size:=by
 induction css with
 |nil=>simp
 |cons a l ih=>rw[wO,zI,ih fun cs hc=>h cs (by simp[hc]),h a (by simp),xT,xQ,Nat.one_mul,Nat.add_comm]
def ay{α:Type}(base e size:Nat)(R:List Value→α→Prop)(w:World)(v:Value)(xs:List α):Prop :=
 ∃css:List (List Value),css.length=xs.length∧(∀cs∈css,cs.length=size)∧w.ownsRow base e size v xs.length css.flatten∧∀(k:Nat) cs x,css[k]?=some cs→xs[k]?=some x→R cs x
section
variable {α:Type} {p base e size:Nat} {R:List Value→α→Prop} {w w':World} {v v':Value} {xs ys:List α}
theorem ay.nil:ay base e size R w (I none 0 0) ([]:List α):=⟨[],rfl,fun cs h=>by simp at h,yW _ _ _ _,fun k cs x h=>by simp at h⟩
theorem ay.ext(h:ay base e size R w v xs)(x:ab w w'):ay base e size R w' v xs:=by obtain⟨css,a,b,c,d⟩:=h;exact⟨css,a,b,ac c x,d⟩
theorem ay.ge(h:ay base e size R w v xs):∀k,v.ownBlock=some k→base≤k:=by obtain⟨css,a,b,c,d⟩:=h;exact ar c
theorem ay.form(h:ay base e size R w v xs):∃A c,v=I A xs.length c:=by
 obtain⟨css,a,b,c,d⟩:=h;rcases c.2 with ⟨e,h0⟩|⟨g,cap,cur,e,_⟩
 ·exact⟨none,0,by rw[e,h0]⟩
 ·exact⟨_,_,e⟩
theorem ay.isS{R':World→List Value→α→Prop}(h:ay base e size R w v xs)(hsz:0<size)(hp:p<base)(hR:∀cs x,R cs x→R' w cs x):bg p size R' w v xs:=by obtain⟨css,a,b,c,d⟩:=h;exact bg.of_own css b hsz a c hp fun k cs x h1 h2=>hR _ _ (d k cs x h1 h2)
theorem ay.app{css:List (List Value)}{css2:List (List Value)}(h1:css.length=xs.length)(h2:css2.length=ys.length)(l1:∀cs∈css,cs.length=size)(l2:∀cs∈css2,cs.length=size)(r1:∀(k:Nat) cs x,css[k]?=some cs→xs[k]?=some x→R cs x)(r2:∀(k:Nat) cs x,css2[k]?=some cs→ys[k]?=some x→R cs x)(ho:w.ownsRow base e size v (xs.length+ys.length) (css.flatten++css2.flatten)):ay base e size R w v (xs++ys):=by
 refine⟨css++css2,by simp[h1,h2],fun cs hc=>?_,by rw[List.flatten_append,zI];exact ho,fun k cs x hc hx=>?_⟩
 ·rcases zC.1 hc with hc|hc
  ·exact l1 cs hc
  ·exact l2 cs hc
 ·rcases zV k xs.length with hk|hk
  ·rw[zH (by omega)]at hc;rw[zH hk]at hx;exact r1 k cs x hc hx
  ·rw[yT (by omega),h1]at hc;rw[yT hk]at hx;exact r2 _ cs x hc hx
end
theorem fW{α:Type}(w:World){rest:List Oper}{o:Oper}{Q:Exit→Act→World→Prop}(hgd:o.guard=none)(s x:Operand)(t:TypeId)(ho:o.op=.call { callee:=.builtin .append,args:=#[s,x],argTypes:=#[t,t] })(base:Nat)(e:TypeId)(i:TypeInfo)(z:Value)(size bytes:Nat)(ht:P.underlying t=some (.slice e))(hi:P.info? e=some i)(hz:i.zero=some z)(hsize:i.size=size)(hby:i.bytes=bytes)(hzs:z.cells.size=size)(hsz:0<size)(R:List Value→α→Prop)(v:Value)(xs:List α)(hs:a.eval s=v)(hown:ay base e size R w v xs)(g:Nat)(us:Array Value)(t':TypeId)(y:α)(hx:a.eval x=I (some ⟨g,0,none⟩) 1 1)(hu:w.heap[g]?=some (.cells us t' (0,0)))(hul:us.size=size)(h1:∀u∈us.toList,u.oneCell'=true)(hR:R us.toList y)(hn:xs.length≤1000000)(hb:bytes≤1000)(hbase:base≤w.heap.size)(h:∀v' w',ay base e size R w' v' (xs++[y])→w.grownBy w' v.ownBlock→wpList P ops Q rest (a.put o.dst v') w'):wpList P ops Q (o::rest) a w:=by
 obtain⟨css,h2,h3,h4,h5⟩:=hown;refine aH w hgd s x t ho base e i z size bytes ht hi hz hsize hby hzs hsz v xs.length css.flatten hs h4 g us t' hx hu hul h1 hn hb hbase fun v' w' ho hg=>h v' w' (ay.app (css2:=[us.toList]) h2 (by simp) h3 (fun cs hc=>?_) h5 (fun k cs x hc hx=>?_) (by simpa using ho)) hg
 ·obtain rfl:cs=us.toList:=by simpa using hc
  simpa using hul
 ·obtain rfl:k=0:=by have:=(zY.1 hx).1;simp at this;exact this
  simp at hc hx;subst hc;subst hx;exact hR
theorem dw{α:Type}(w:World){rest:List Oper}{o:Oper}{Q:Exit→Act→World→Prop}(hgd:o.guard=none)(s x:Operand)(t:TypeId)(ho:o.op=.call { callee:=.builtin .append,args:=#[s,x],argTypes:=#[t,t] })(base:Nat)(e:TypeId)(i:TypeInfo)(z:Value)(size bytes:Nat)(ht:P.underlying t=some (.slice e))(hi:P.info? e=some i)(hz:i.zero=some z)(hsize:i.size=size)(hby:i.bytes=bytes)(hzs:z.cells.size=size)(hsz:0<size)(R:List Value→α→Prop)(h1:∀cs x,R cs x→∀u∈cs,u.oneCell'=true)(v:Value)(xs:List α)(hs:a.eval s=v)(hown:ay base e size R w v xs)(p:Nat)(A:Option Addr)(m c:Nat)(ys:List α)(hx:a.eval x=I A m c)(hr:bg p size (fun _=>R) w (I A m c) ys)(hn:xs.length+m≤1000000)(hb:bytes≤1000)(hbase:base≤w.heap.size)(h:∀v' w',ay base e size R w' v' (xs++ys)→w.grownBy w' v.ownBlock→wpList P ops Q rest (a.put o.dst v') w'):wpList P ops Q (o::rest) a w:=by
 have hl:=hr.len;obtain⟨css,h2,h3,h4,h5⟩:=hown;rcases xW m with h0|h0
 ·subst h0;obtain rfl:ys=[]:=yO hl;rcases A with _|ad
  ·refine wpList_plain hgd fun K hK=>?_;have hrun:=kX (P:=P) w base t o.type e i size ht hi v _ _ h4 c;unfold Oper.wp;simp[execOp,ho,resolve,invoke,builtin,hs,hx,hrun,Result.andThen];exact hK _ _ (h v w (by rw[xU];exact⟨css,h2,h3,h4,h5⟩) (wJ _ _))
  ·refine wpList_append_own w hgd s x t ho base e i z size bytes ht hi hz hsize hby hzs hsz v _ _ hs h4 ad 0 c [] hx (by simp) (by simp) (by simp) (by unfold maxLen;omega) ?_ hbase (fun v' w' g2 g3 _=>h v' w' (ay.app (css2:=[]) h2 rfl h3 (fun cs hc=>by simp at hc) h5 (fun k cs x hc=>by simp at hc) (by simpa using g2)) g3);have:(xs.length+0)*bytes≤(xs.length+0)*1000:=wP _ hb;omega
 ·obtain⟨A',c',hv,k1,k2,k4⟩:=hr;injection hv with ha _ _;subst ha;obtain⟨b,off,cs0,hA,_,_,_,_⟩:=k4 0 ys[0] (zW (by omega));subst hA;obtain⟨css2,g1,g2,g3⟩:=Gg (size:=size) (C:=fun k cs x=>R cs x∧∀j u,cs[j]?=some u→w.cell? ⟨b,off+k*size+j,none⟩=some u) ys (fun k x hk=>by
   obtain⟨b',off',cs,hA,_,hcl,hcc,hR⟩:=k4 k x hk;injection hA with hA;injection hA with q1 q2;subst q1;subst q2;exact⟨cs,hcl,hR,hcc⟩)
  refine wpList_append_own w hgd s x t ho base e i z size bytes ht hi hz hsize hby hzs hsz v _ _ hs h4 ⟨b,off,none⟩ m c css2.flatten hx ?_ ?_ ?_ (by unfold maxLen;omega) ?_ hbase (fun v' w' q2 q3 _=>h v' w' (ay.app h2 g1 h3 g2 h5 (fun k cs x hc hx=>(g3 k cs x hc hx).1) (by rw[hl];exact q2)) q3)
  ·rw[nV g2,g1,hl]
  ·intro j u hj;have hsj:j/size<css2.length:=by
    have hj':=(zY.1 hj).1;rw[nV g2]at hj';exact Nat.div_lt_of_lt_mul (by rw[Nat.mul_comm];exact hj')
   have hjm:j%size<size:=xD _ hsz;have e1:j/size*size+j%size=j:=by rw[Nat.mul_comm];exact Nat.div_add_mod _ _
   have hf:=sq (f:=fun cs:List Value=>cs) (ys:=css2) g2 (zW hsj) hjm;simp only[List.map_id']at hf;rw[e1,hj]at hf;have:=(g3 (j/size) _ (ys[j/size]'(by omega)) (zW hsj) (zW (by omega))).2 (j%size) u hf.symm;rw[Nat.add_assoc,e1]at this;rw[ik];exact this
  ·intro u hu;obtain⟨cs,hc,hu⟩:=List.mem_flatten.1 hu;obtain⟨k,hk⟩:=yZ hc;have hk':=(zY.1 hk).1;exact h1 _ _ (g3 k cs (ys[k]'(by omega)) hk (zW (by omega))).1 u hu
  ·have:(xs.length+m)*bytes≤(xs.length+m)*1000:=wP _ hb;omega
theorem bg.takeFull{α:Type}{R:World→List Value→α→Prop}{xs:List α}(h:bg p size R w (I A n c) xs)(hk:k≤n):bg p size R w (I A k k) (xs.take k):=by
 have hl:=h.len;obtain⟨A',c',hv,h1,h2,h4⟩:=h;injection hv with ha hn hc;subst ha;subst hc;have hlk:(xs.take k).length=k:=by rw[zF];omega
 refine⟨_,k,by rw[hlk],by omega,by omega,fun i x hx=>h4 i x ?_⟩;have hi:=(zY.1 hx).1;rw[List.getElem?_take_of_lt (by omega)]at hx;exact hx
theorem bg.flat{α:Type}{f:α→List Value}{xs:List α}(h:bg p size (fun _ cs x=>cs=f x) w (I A n c) xs)(hsz:0<size):(n=0∨∃b:Addr,A=some b∧∀j u,(xs.map f).flatten[j]?=some u→w.cell? (b.add j)=some u)∧(xs.map f).flatten.length=n*size:=by
 have hl:=h.len;obtain⟨A',c',hv,h1,h2,h4⟩:=h;injection hv with ha hn hc;subst ha;have hf:∀x∈xs,(f x).length=size:=fun x hx=>by obtain⟨k,hk⟩:=yZ hx;obtain⟨b,off,cs,_,_,hcl,_,rfl⟩:=h4 k x hk;exact hcl
 have hfl:(xs.map f).flatten.length=n*size:=by rw[nV (size:=size) (fun cs hc=>by obtain⟨x,hx,rfl⟩:=zJ.1 hc;exact hf x hx),zM,hl]
 refine⟨?_,hfl⟩;rcases xW n with h0|h0
 ·exact .inl h0
 obtain⟨b,off,cs,hA,_,_,_,_⟩:=h4 0 xs[0] (zW (by omega));refine .inr ⟨⟨b,off,none⟩,hA,fun j u hu=>?_⟩;have hj:j<n*size:=by have:=(zY.1 hu).1;omega
 have hq:j/size<n:=Nat.div_lt_of_lt_mul (by rw[Nat.mul_comm];exact hj);have hx:xs[j/size]?=some xs[j/size]:=zW (by omega);obtain⟨b',off',cs',hA',_,_,hc',hcs⟩:=h4 (j/size) _ hx;rw[hA]at hA';injection hA' with hA';injection hA' with e1 e2;subst e1;subst e2;subst hcs;have hr:j%size<size:=xD _ hsz;have hd:j/size*size+j%size=j:=by rw[Nat.mul_comm];exact Nat.div_add_mod j size
 have hu2:(f xs[j/size])[j%size]?=some u:=by have:=sq (f:=f) (size:=size) hf hx hr;rw[hd]at this;rw[←this];exact hu
 have:=hc' _ u hu2;have e:off+j/size*size+j%size=off+j:=by omega
 rw[e]at this;by_cases hz:j=0
 ·subst hz;simpa[Addr.add] using this
 ·simpa[Addr.add,hz] using this
theorem tV(w:World)(t ty e:TypeId)(i:TypeInfo)(z:Value)(size bytes:Nat)(ht:P.underlying t=some (.slice e))(hi:P.info? e=some i)(hz:i.zero=some z)(hsize:i.size=size)(hby:i.bytes=bytes)(hzs:z.cells.size=size)(A:Option Addr)(n:Nat)(olds:List Value)(hol:olds.length=n*size)(hold:n=0∨∃b:Addr,A=some b∧∀j u,olds[j]?=some u→w.cell? (b.add j)=some u)(B:Option Addr)(m c:Nat)(news:List Value)(hnl:news.length=m*size)(hnews:m=0∨∃b:Addr,B=some b∧∀j u,news[j]?=some u→w.cell? (b.add j)=some u)(h63:n+m≤maxLen)(hbytes:(n+m)*bytes≤140737488355328) :
  ∃v' w',(Builtin.append_ #[t,t] ty #[I A n n,I B m c]).run P w=.ok v' w'∧ab w w'∧((m=0∧v'=I A n n∧w'=w)∨∃c',v'=I (some ⟨w.heap.size,0,none⟩) (n+m) c'∧w'.ownsRow w.heap.size e size v' (n+m) (olds++news)):=by
 subst hsize;subst hby;have hsmall:n+m≤9223372036854775807:=by simp only[maxLen]at h63;omega
 have hlen:(olds++news).length=(n+m)*i.size:=by rw[zI,hol,hnl,xQ]
 have grown:∀(old:Nat),(w.drew.alloc (.cells (olds.toArray++news.toArray++Builtin.zeroCells z.cells (grownCap w (n+m) old e-(n+m))) e)).ownsRow w.heap.size e i.size
    (I (some ⟨w.heap.size,0,none⟩) (n+m) (grownCap w (n+m) old e)) (n+m) (olds++news) ∧
   ab w (w.drew.alloc (.cells (olds.toArray++news.toArray++Builtin.zeroCells z.cells (grownCap w (n+m) old e-(n+m))) e)):=by
  intro old;have hge:=grownCap_ge w (n+m) old e;have hcm:grownCap w (n+m) old e≤maxLen:=grownCap_le_maxLen w (n+m) old e h63;refine⟨⟨hlen,.inr ⟨w.heap.size,_,_,rfl,zX _,heap_alloc_new w.drew _,hge,hcm,?_,?_⟩⟩,((zE w).drew).alloc _⟩
  ·simp only[Array.size_append,List.size_toArray,size_zeroCells,hzs,hol,hnl,←xQ];congr 1
   omega
  ·simp only[Array.toList_append,xV];rw[←xV,←hlen];exact List.take_left
 rcases hnews with h0|⟨b,rfl,hnews⟩
 ·subst h0;refine⟨I A n n,w,?_,zE _,.inl ⟨rfl,rfl,rfl⟩⟩;cases A<;>cases B<;>simp[Builtin.append_,run_underlying ht,sizeOf,typeInfo,hi,Builtin.lenOf,Builtin.firstCells,storeCells,loadCells,loadCellsFrom]
 rcases xW m with h0|h0
 ·subst h0;refine⟨I A n n,w,?_,zE _,.inl ⟨rfl,rfl,rfl⟩⟩;cases A<;>simp[Builtin.append_,run_underlying ht,sizeOf,typeInfo,hi,Builtin.lenOf,Builtin.firstCells,storeCells,loadCells,loadCellsFrom]
 rcases A with _|ad
 ·have hn:n=0:=by rcases hold with h|⟨b',h,_⟩;exact h;cases h
  subst hn;have ho:olds=[]:=yO (by simpa using hol);subst ho;have hr:=run_append_nil (P:=P) w t ty e i z ht hi hz b m c news hnl hnews h0 (by omega) (by have hb:=hbytes;simp only[yV]at hb;omega);have hgr:=grown 0;simp only[yV,List.nil_append,Array.empty_append]at hgr⊢;exact⟨_,_,hr,hgr.2,.inr ⟨_,rfl,hgr.1⟩⟩
 ·have hh:∀j u,olds[j]?=some u→w.cell? (ad.add j)=some u:=by
   rcases hold with h|⟨b',h,hh⟩
   ·subst h;have ho:olds=[]:=yO (by simpa using hol);subst ho;intro j u hj;simp at hj
   ·injection h with h;subst h;exact hh
  have hr:=run_append_grow (P:=P) w t ty e i z ht hi hz ad n n olds hol hh b m c news hnl hnews (by omega) (by omega) (growslice_fits (by omega) hbytes);have hgr:=grown n;exact⟨_,_,hr,hgr.2,.inr ⟨_,rfl,hgr.1⟩⟩
theorem oD{o:Oper}{K:Act→World→Prop}{Q:Exit→Act→World→Prop}(s x:Operand)(t:TypeId)(ho:o.op=.call { callee:=.builtin .append,args:=#[s,x],argTypes:=#[t,t] }){v':Value}{w':World}{vs vx:Value}(hs:a.eval s=vs)(hx:a.eval x=vx)(hrun:(Builtin.append_ #[t,t] o.type #[vs,vx]).run P w=.ok v' w')(h:K (a.put o.dst v') w'):Oper.wp P o a w K Q:=by
 unfold Oper.wp;simp[execOp,ho,resolve,invoke,builtin,hs,hx,hrun,Result.andThen];exact h
theorem lC{o:Oper}{K:Act→World→Prop}{Q:Exit→Act→World→Prop}{E:Prop}(hgd:o.guard=none)(s x:Operand)(t:TypeId)(ho:o.op=.call { callee:=.builtin .append,args:=#[s,x],argTypes:=#[t,t] }){v':Value}{w':World}{vs vx:Value}(hs:a.eval s=vs)(hx:a.eval x=vx)(hrun:(Builtin.append_ #[t,t] o.type #[vs,vx]).run P w=.ok v' w')(h:K (a.put o.dst v') w'):if Region.wanted o (yielded ops a.tmps)=true then Oper.wp P o a w K Q else E:=by
 have hw:Region.wanted o (yielded ops a.tmps)=true:=by simp[Region.wanted,hgd]
 rw[if_pos hw];exact oD s x t ho hs hx hrun h
def AH(base:Nat):World→List Value→(aF×Value)→Prop:=fun w cs y=>cs=eM y∧eY w base y.2 y.1.ch∧fK y.1
structure ie (p base:Nat) (w:World) (v:Value) (ys:List (aF×Value)):Prop where
 rd:bg p 13 (AH base) w v ys
 kd:aq base w v ys∨∃A n,v=I A n n
section
variable {p base:Nat} {w w':World} {v:Value} {ys:List (aF×Value)}
theorem AH.stab(hp:p<base):kc p (AH base):=by rintro w w' cs y ⟨h1,h2,h3⟩ e;exact⟨h1,h2.xt e hp,h3⟩
theorem aq.rdC(h:aq base w v ys)(hp:p<base):bg p 13 (AH base) w v ys:=by
 refine bg.of_own (e:=111) (ys.map eM) (fun cs hcs=>by obtain⟨y,_,rfl⟩:=zJ.1 hcs;rfl) (by decide) (by simp) h.own hp ?_;intro k cs x hcs hx;simp only[zL,yI]at hcs;obtain⟨y,hy,rfl⟩:=hcs;rw[hx]at hy;injection hy with hy;subst hy
 exact⟨rfl,h.el x (zU hx)⟩
theorem ie.of_row(h:aq base w v ys)(hp:p<base):ie p base w v ys:=⟨h.rdC hp,.inl h⟩
theorem ie.xt(h:ie p base w v ys)(hx:XT p w w')(hp:p<base):ie p base w' v ys :=
 ⟨h.rd.xt (AH.stab hp) hx,h.kd.imp (fun k=>k.xt hx hp) id⟩
theorem ie.isCs(h:ie p base w v ys)(hp:p<base):fE p w v (ys.map Prod.fst):=by obtain⟨A,c,hv,h1,h2,h4⟩:=h.rd;refine⟨A,c,by rw[zM];exact hv,by rw[zM];exact h1,h2,fun k x hx=>?_⟩;rw[zL,yI]at hx;obtain⟨y,hy,rfl⟩:=hx;obtain⟨b,off,cs,ha,hb,hcl,hcell,rfl,hch,hk⟩:=h4 k y hy;exact⟨b,off,eM y,ha,hb,hcl,hcell,y.2,rfl,hch.isI hp,hk.wf hch.2.2⟩
theorem ie.form(h:ie p base w v ys):∃A c,v=I A ys.length c:=by obtain⟨A,c,hv,_⟩:=h.rd;exact⟨A,c,hv⟩
theorem ms(h:bg p 13 (AH base) w (I A n c) ys):bg p 13 (fun _ cs y=>cs=eM y) w (I A n c) ys:=by obtain⟨A',c',hv,h1,h2,h4⟩:=h;exact⟨A',c',hv,h1,h2,fun k x hx=>by obtain⟨b,off,cs,a1,a2,a3,a4,a5,_⟩:=h4 k x hx;exact⟨b,off,cs,a1,a2,a3,a4,a5⟩⟩
theorem kw(h:bg p 13 (AH base) w (I A n c) ys):∀y∈ys,eY w base y.2 y.1.ch∧fK y.1:=by intro y hy;obtain⟨A',c',hv,h1,h2,h4⟩:=h;obtain⟨k,hk⟩:=yZ hy;obtain⟨b,off,cs,a1,a2,a3,a4,a5,a6⟩:=h4 k y hk;exact a6
theorem jw{B:Option Addr}{m:Nat}{xs zs:List (aF×Value)}(ty:TypeId)(hA:bg p 13 (AH base) w (I A n n) xs)(hB:bg p 13 (AH base) w (I B m c) zs)(hp:p<base)(hbw:base≤w.heap.size)(hn:n+m≤1000) :
  ∃v' w',(Builtin.append_ #[64,64] ty #[I A n n,I B m c]).run prog w=.ok v' w'∧ab w w'∧ie p base w' v' (xs++zs):=by
 obtain⟨iC,hiC,hC0,hC1,hC2⟩:=info_parts Tryz.infoCap;obtain⟨f1,l1⟩:=bg.flat (ms hA) (by decide);obtain⟨f2,l2⟩:=bg.flat (ms hB) (by decide);obtain⟨v',w',hrun,hx,hcase⟩:=tV (P:=prog) w 64 ty 111 iC _ 13 128 underlying64 hiC hC0 hC1 hC2 rfl A n (xs.map eM).flatten l1 f1 B m c (zs.map eM).flatten l2 f2 (by unfold maxLen;omega) (by omega);refine⟨v',w',hrun,hx,?_⟩;have e1:=hA.len;have e2:=hB.len;rcases hcase with ⟨h0,rfl,rfl⟩|⟨c',rfl,ho⟩
 ·have hz:zs=[]:=yO (by omega);subst hz;rw[xU];exact⟨hA,.inr ⟨_,_,rfl⟩⟩
 ·refine ie.of_row ⟨?_,fun y hy=>?_⟩ hp
  ·unfold aL;rw[yN,List.flatten_append,zI,e1,e2];exact bo ho hbw
  ·rcases zC.1 hy with hy|hy
   ·exact⟨(kw hA y hy).1.ext hx,(kw hA y hy).2⟩
   ·exact⟨(kw hB y hy).1.ext hx,(kw hB y hy).2⟩
theorem vD{v:Value}{B:Option Addr}{m:Nat}{xs zs:List (aF×Value)}(ty:TypeId)(hA:ie p base w v xs)(hB:bg p 13 (AH base) w (I B m c) zs)(hp:p<base)(hbw:base≤w.heap.size)(hn:xs.length+m≤1000) :
  ∃v' w',(Builtin.append_ #[64,64] ty #[v,I B m c]).run prog w=.ok v' w'∧(∃row,w.grownBy w' row∧(∀k,row=some k→base≤k)∧∀(g:Nat) (cs:Array Value) (t:TypeId),Bk w g cs t→t≠111→row≠some g)∧fE p w' v' ((xs++zs).map Prod.fst):=by
 rcases hA.kd with hr|⟨A,n,rfl⟩
 ·obtain⟨iC,hiC,hC0,hC1,hC2⟩:=info_parts Tryz.infoCap;obtain⟨f2,l2⟩:=bg.flat (ms hB) (by decide);have e2:=hB.len;rcases f2 with h0|⟨b,rfl,hb⟩
  ·subst h0;have hz:zs=[]:=yO e2;subst hz;rw[xU];refine⟨v,w,?_,⟨none,wJ _ _,(fun k hk=>by cases hk),(fun g cs t hb ht e=>by cases e)⟩,hA.isCs hp⟩;rcases hr.own.own.2 with ⟨rfl,h0⟩|⟨g,cap,cur,rfl,_,_,hnc,_⟩
   ·cases B<;>simp[Builtin.append_,run_underlying underlying64,sizeOf,typeInfo,hiC,Builtin.lenOf,Builtin.firstCells,storeCells,loadCells,loadCellsFrom]
   ·cases B<;>simp[Builtin.append_,run_underlying underlying64,sizeOf,typeInfo,hiC,Builtin.lenOf,Builtin.firstCells,hnc,storeCells,loadCells,loadCellsFrom]
  ·obtain⟨v',w',hrun,ho,hg,-⟩:=run_append_own (P:=prog) w base 64 ty 111 iC _ 13 128 underlying64 hiC hC0 hC1 hC2 rfl (by omega) v xs.length (xs.map eM).flatten hr.own.own b m c (zs.map eM).flatten l2 hb (fun u hu=>by
    obtain⟨cs,hcs,hu⟩:=List.mem_flatten.1 hu;obtain⟨y,_,rfl⟩:=zJ.1 hcs;obtain⟨Ay,cy,e⟩:=(kw hB y (by assumption)).1.form;unfold eM aF.cells at hu;rw[e]at hu;simp only[yG,wK,or_false]at hu;rcases hu with rfl|rfl|rfl|rfl|rfl|rfl|rfl|rfl|rfl|rfl|rfl|rfl|rfl<;>rfl) (by unfold maxLen;omega) (by omega) hbw
   refine⟨v',w',hrun,⟨v.ownBlock,hg,ar hr.own.own,(fun g cs t hb' ht=>ex hr.own.own hb' ht)⟩,?_⟩;have hrow:aq base w' v' (xs++zs):=⟨by
     unfold aL;rw[yN,List.flatten_append,zI,e2];exact ho,fun y hy=>by
    rcases zC.1 hy with hy|hy
    ·exact⟨(hr.el y hy).1.apart hr.own (by decide) hg,(hr.el y hy).2⟩
    ·exact⟨(kw hB y hy).1.apart hr.own (by decide) hg,(kw hB y hy).2⟩⟩
   exact hrow.isCs hp
 ·have hln:=hA.rd.len;obtain⟨v',w',hrun,hx,hl⟩:=jw ty hA.rd hB hp hbw (by omega);exact⟨v',w',hrun,⟨none,⟨hx.os,hx.tape,hx.output,hx.size,fun k hk _=>hx.block k hk⟩,(fun k hk=>by cases hk),(fun g cs t hb ht e=>by cases e)⟩,hl.isCs hp⟩
end
theorem Tryz.infoSst:(prog.info? 75).map (fun i=>(i.zero,i.size,i.bytes))=some (some (.agg #[D G 0,D G 0,D G 0,D G 0,D G 0,D G 0,D G 0]),7,56):=by kernel_rfl
theorem Tryz.infoPg:(prog.info? 77).map (fun i=>(i.zero,i.size,i.bytes))=some (some (.agg #[D G 0,D G 0,D G 0,I none 0 0,D G 0,D G 0]),6,64):=by kernel_rfl
theorem GA{α:Type}{R:World→List Value→α→Prop}{xs:List α}(h:bg p size R w (I A n c) xs)(hk:k≤n)(hc:¬c=k):bg p size R w (I (A.map fun x=>x.add (k*size)) (n-k) (c-k)) (xs.drop k):=by have:=h.drop hk;rwa [if_neg hc]at this
theorem Gu{α:Type}{R:World→List Value→α→Prop}{xs:List α}(h:bg p size R w (I A k c) xs):bg p size R w (I (if c=k then A else A.map fun x=>x.add (k*size)) 0 (c-k)) (xs.drop k):=by have:=h.drop (zX k);rwa [Nat.sub_self]at this
theorem nA(w:World):∀cs x,cQ w cs x→∀u∈cs,u.oneCell'=true:=by rintro cs x ⟨rfl,-⟩ u hu;simp only[aY.cells,yG,wK,or_false]at hu;rcases hu with rfl|rfl|rfl|rfl|rfl|rfl|rfl<;>rfl
theorem rN(p:Nat)(w:World):∀cs x,j3 p w cs x→∀u∈cs,u.oneCell'=true:=by rintro cs x ⟨v,rfl,⟨A,c,rfl,-⟩,-⟩ u hu;simp only[Pg.cells,yG,wK,or_false]at hu;rcases hu with rfl|rfl|rfl|rfl|rfl|rfl<;>rfl
theorem mR(v:Value)(l:List aY)(xs xq xt xa xb xc xd:Int)(w:World)(hv:eF p w v l)(hx:aY.wf ⟨⟨xs,xq⟩,xt,⟨xa,xb,xc,xd⟩⟩)(hn:l.length≤1000) :
  Calls prog 61 #[v,.agg #[D G xs,D G xq,D G xt,D G xa,D G xb,D G xc,D G xd]] w fun e w'=>∃vo:Value,e=.returned vo∧ay w.heap.size 75 7 (cQ w) w' vo (gF aW ⟨⟨xs,xq⟩,xt,⟨xa,xb,xc,xd⟩⟩ l)∧ab w w':=by
 obtain⟨A,n,c,rfl,hnc,hcc,hnn,HL⟩:=hv.open_;obtain⟨iC,hiC,hC0,hC1,hC2⟩:=info_parts Tryz.infoSst;have HX:Bx (aY.wf ⟨⟨xs,xq⟩,xt,⟨xa,xb,xc,xd⟩⟩):=⟨hx⟩
 have hn3:n≤1000:=by have:=HL.out;omega
 have HV:Bx (eF p w (I A n c) l):=⟨hv⟩
 have HW:Bx (bg p 7 (fun _=>cQ w) w (I A n c) l):=⟨hv⟩
 have HF:Bx (ae w (w.alloc (.cells #[D G xs,D G xq,D G xt,D G xa,D G xb,D G xc,D G xd] 75)) [(w.heap.size,#[D G xs,D G xq,D G xt,D G xa,D G xb,D G xc,D G xd],75)]):=⟨(ae.start w).push _ _ rfl⟩
 clear hv hn hx;go_enter func61,ntmps61
 go_upto_region 1 with (fail)
 obtain⟨w1,hw1⟩:=nm ((w.alloc (.cells #[D G xs,D G xq,D G xt,D G xa,D G xb,D G xc,D G xd] 75)):World);rw[←hw1]at HF;rw[←hw1];clear hw1;go_wp2_with fail;go_loopw [5] (fun s5 wr=>∃k:Nat,s5=D G k∧k≤n∧Bx (ae w wr [(w.heap.size,#[D G xs,D G xq,D G xt,D G xa,D G xb,D G xc,D G xd],75)]∧∀(j:Nat) y,j<k→l[j]?=some y→aW y ⟨⟨xs,xq⟩,xt,⟨xa,xb,xc,xd⟩⟩=true)) (fun k _=>n-(intOf k).toNat)
 case atStart=>exact⟨0,rfl,by omega,⟨⟨HF.out,fun j y hj=>by omega⟩⟩⟩
 case round =>
  obtain⟨k,rfl,hk,HR⟩:=hrel;have HFd:Bx (ae w wr.drew [(w.heap.size,#[D G xs,D G xq,D G xt,D G xa,D G xb,D G xc,D G xd],75)]):=⟨HR.out.1.drew⟩
  have HA:Bx (∀(j:Nat) y,j<k→l[j]?=some y→aW y ⟨⟨xs,xq⟩,xt,⟨xa,xb,xc,xd⟩⟩=true):=⟨HR.out.2⟩
  clear HR;by_cases hkn:k<n
  ·obtain⟨b,off,_,_,rfl,-⟩:=HV.out.at_ hkn;obtain⟨cs,⟨⟨ys,yq⟩,yt,⟨ya,yb,yc,yd⟩⟩,-,hc0,⟨hcs,-⟩,HY⟩:=(HV.out.ext (cQ.stab p) HFd.out.xt).cell_ hkn;have y0:=hc0 0 (D G ys) (by rw[hcs];rfl);have y1:=hc0 1 (D G yq) (by rw[hcs];rfl);rw[yP]at y0;have kS:wr.drew.cell? ⟨b,off+k*7,none⟩=some (D G ys)∧wr.drew.cell? ⟨b,off+k*7+1,none⟩=some (D G yq)∧wr.drew.cell? ⟨w.heap.size,0,none⟩=some (D G xs)∧wr.drew.cell? ⟨w.heap.size,1,none⟩=some (D G xq):=⟨y0,y1,(HFd.out.at_ 0 rfl).c 0 rfl,(HFd.out.at_ 0 rfl).c 1 rfl⟩
   clear hc0 hcs y0 y1;go_upto_region 2 with (fail)
   refine zR 99 (fun w'=>w'.cell? ⟨b,off+k*7,none⟩=some (D G ys)∧w'.cell? ⟨b,off+k*7+1,none⟩=some (D G yq)∧w'.cell? ⟨w.heap.size,0,none⟩=some (D G xs)∧w'.cell? ⟨w.heap.size,1,none⟩=some (D G xq)) ?_;refine zS 12 [(0,7),(1,8),(2,9),(3,10),(4,11),(5,12),(6,13),(7,14),(8,15),(9,16),(10,17),(11,18)] kS ?_;iterate 12 (apply zT;exact⟨rfl,rfl⟩;(·intro _ _;go_simp;try with_reducible rfl);simp only[kA];exact rfl)
   refine zN (zO 12 (fun K hK=>?_));go_simp;refine (mK ys yq xs xq _).mono ?_;rintro e w3 ⟨rfl,hx3⟩;have HF3:=bx (HFd.out.ext hx3);have kS2:w3.cell? ⟨b,off+k*7,none⟩=some (D G ys)∧w3.cell? ⟨b,off+k*7+1,none⟩=some (D G yq)∧w3.cell? ⟨w.heap.size,0,none⟩=some (D G xs)∧w3.cell? ⟨w.heap.size,1,none⟩=some (D G xq):=⟨hx3.cell kS.1,hx3.cell kS.2.1,hx3.cell kS.2.2.1,hx3.cell kS.2.2.2⟩
   clear hx3 kS HFd;cases hlt:gY ⟨ys,yq⟩ ⟨xs,xq⟩ with
   |true =>
    replace hlt:=zZ hlt;refine hK.out _ _ (fun _=>(kS2)) ?_;clear hK K;try simp only[kA]
    refine zS 1 [(13,20)] kS2 ?_;(apply zT;exact⟨rfl,rfl⟩;(·intro _ _;go_simp;try with_reducible rfl);simp only[kA];exact rfl);refine zN (zD ?_);clear kS2;go_wp2_with fail;go_roundw
    case rel=>exact⟨k+1,by go_num,by omega,⟨⟨HF3.out,fun j y hj hy=>by rcases zV j k with h|h;exact HA.out j y h hy;obtain rfl:j=k:=(by omega);rw[HY.out]at hy;injection hy with hy;subst hy;exact hlt.out⟩⟩⟩
    case measure=>simp[intOf];omega
   |false =>
    replace hlt:=zZ hlt;refine hK.out _ _ (fun _=>(kS2)) ?_;clear hK K;try simp only[kA]
    refine zS 1 [(13,20)] kS2 ?_;(apply zT;exact⟨rfl,rfl⟩;(·intro _ _;go_simp;try with_reducible rfl);simp only[kA];exact rfl);refine zN (zD ?_);clear kS2;obtain⟨Az,hAz⟩:=nm (some ⟨b,off,none⟩:Option Addr);rw[←hAz]at HV HW;rw[←hAz];clear hAz;have HB:Bx (∀y,l[k]?=some y→aW y (⟨⟨xs,xq⟩,xt,⟨xa,xb,xc,xd⟩⟩:aY)=false):=⟨fun y hy=>by rw[HY.out]at hy;injection hy with hy;subst hy;exact hlt.out⟩
    have HI9:=zZ (jK HA.out HB.out (by have:=HL.out;omega));have HT:=zZ ((HW.out.ext (fun _ _ _ _ h _=>h) HF3.out.xt).take hk);go_wp2_with (first
     |(at_builtin;(refine dw _ rfl (.tmp 23) (.tmp 26) 28 rfl w.heap.size 75 iC _ 7 56 underlying28 hiC hC0 hC1 hC2 rfl (by omega) (cQ w) (nA w) (I none 0 0) [] rfl ay.nil p _ k c (l.take k) rfl HT.out (by simp;omega) (by omega) (HF3.out.xt.size) ?_;intro v4 w4 hown4 hg4;have HO4:Bx (ay w.heap.size 75 7 (cQ w) w4 v4 (l.take k)):=⟨hown4⟩;have HF4:=zZ (HF3.out.grown hg4 (by simp[Value.ownBlock]) (by simp[Value.ownBlock]));clear hown4 hg4;have z0:=(HF4.out.at_ 0 rfl).c 0 rfl;have z1:=(HF4.out.at_ 0 rfl).c 1 rfl;have z2:=(HF4.out.at_ 0 rfl).c 2 rfl;have z3:=(HF4.out.at_ 0 rfl).c 3 rfl;have z4:=(HF4.out.at_ 0 rfl).c 4 rfl;have z5:=(HF4.out.at_ 0 rfl).c 5 rfl;have z6:=(HF4.out.at_ 0 rfl).c 6 rfl))
     |(at_builtin;(refine fW _ rfl (.tmp 28) (.tmp 30) 28 rfl w.heap.size 75 iC _ 7 56 underlying28 hiC hC0 hC1 hC2 rfl (by omega) (cQ w) v4 (l.take k) rfl (HO4.out.ext ((zE _).alloc _)) _ #[D G xs,D G xq,D G xt,D G xa,D G xb,D G xc,D G xd] _ (⟨⟨xs,xq⟩,xt,⟨xa,xb,xc,xd⟩⟩:aY) rfl (heap_alloc_new _ _) rfl (by simp[Value.oneCell']) ⟨rfl,HX.out⟩ (by rw[zF];omega) (by omega) (by have:=HF4.out.xt.size;simp;omega) ?_;intro v5 w5 hown5 hg5;have HO5:Bx (ay w.heap.size 75 7 (cQ w) w5 v5 (l.take k++[(⟨⟨xs,xq⟩,xt,⟨xa,xb,xc,xd⟩⟩:aY)])):=⟨hown5⟩;have HE5:Bx (ab w w5):=⟨(HF4.out.xt.alloc _).grown hg5 HO4.out.ge⟩;have HD:=zZ (GA (HW.out.ext (fun _ _ _ _ h _=>h) HE5.out) hk (by omega));clear hown5 hg5))
     |(at_builtin;go_loud (refine dw _ rfl (.tmp 32) (.tmp 35) 28 rfl w.heap.size 75 iC _ 7 56 underlying28 hiC hC0 hC1 hC2 rfl (by omega) (cQ w) (nA w) v5 _ rfl HO5.out p _ (n-k) (c-k) (l.drop k) rfl HD.out (by simp[zF];omega) (by omega) (HE5.out.size) ?_;intro v6 w6 hown6 hg6;have HO6:Bx (ay w.heap.size 75 7 (cQ w) w6 v6 (l.take k++[(⟨⟨xs,xq⟩,xt,⟨xa,xb,xc,xd⟩⟩:aY)]++l.drop k)):=⟨hown6⟩;have HE6:Bx (ab w w6):=⟨HE5.out.grown hg6 HO5.out.ge⟩;clear hown6 hg6)))
    all_goals (go_ret;exact⟨v6,rfl,HI9.out▸HO6.out,HE6.out⟩)
  ·obtain rfl:k=n:=by omega
   have kS:True:=trivial;go_upto_region 2 with (fail)
   refine zR 99 (fun _=>True) ?_;refine zS 5 [(0,7),(1,8),(2,9),(3,10),(4,11)] kS ?_;iterate 5 (apply zT;exact⟨rfl,rfl⟩;(·intro _ _;go_simp;try with_reducible rfl);simp only[kA];exact rfl)
   refine zN (zS 8 [(5,12),(6,13),(7,14),(8,15),(9,16),(10,17),(11,18),(12,19)] kS ?_);iterate 8 (apply zK;exact⟨rfl,rfl⟩;simp only[kA];exact rfl)
   refine zN (zS 1 [(13,20)] kS ?_);(apply zT;exact⟨rfl,rfl⟩;(·intro _ _;go_simp;try with_reducible rfl);simp only[kA];exact rfl);refine zN (zD ?_);clear kS;have HB:Bx (∀y,l[k]?=some y→aW y (⟨⟨xs,xq⟩,xt,⟨xa,xb,xc,xd⟩⟩:aY)=false):=⟨fun y hy=>by have:=(zY.1 hy).1;have:=HL.out;omega⟩
   have HI9:=zZ (jK HA.out HB.out (by have:=HL.out;omega));have HT:=zZ ((HW.out.ext (fun _ _ _ _ h _=>h) HFd.out.xt).take hk);go_wp2_with (first
    |(at_builtin;(refine dw _ rfl (.tmp 23) (.tmp 26) 28 rfl w.heap.size 75 iC _ 7 56 underlying28 hiC hC0 hC1 hC2 rfl (by omega) (cQ w) (nA w) (I none 0 0) [] rfl ay.nil p _ k c (l.take k) rfl HT.out (by simp;omega) (by omega) (HFd.out.xt.size) ?_;intro v4 w4 hown4 hg4;have HO4:Bx (ay w.heap.size 75 7 (cQ w) w4 v4 (l.take k)):=⟨hown4⟩;have HF4:=zZ (HFd.out.grown hg4 (by simp[Value.ownBlock]) (by simp[Value.ownBlock]));clear hown4 hg4;have z0:=(HF4.out.at_ 0 rfl).c 0 rfl;have z1:=(HF4.out.at_ 0 rfl).c 1 rfl;have z2:=(HF4.out.at_ 0 rfl).c 2 rfl;have z3:=(HF4.out.at_ 0 rfl).c 3 rfl;have z4:=(HF4.out.at_ 0 rfl).c 4 rfl;have z5:=(HF4.out.at_ 0 rfl).c 5 rfl;have z6:=(HF4.out.at_ 0 rfl).c 6 rfl))
    |(at_builtin;(refine fW _ rfl (.tmp 28) (.tmp 30) 28 rfl w.heap.size 75 iC _ 7 56 underlying28 hiC hC0 hC1 hC2 rfl (by omega) (cQ w) v4 (l.take k) rfl (HO4.out.ext ((zE _).alloc _)) _ #[D G xs,D G xq,D G xt,D G xa,D G xb,D G xc,D G xd] _ (⟨⟨xs,xq⟩,xt,⟨xa,xb,xc,xd⟩⟩:aY) rfl (heap_alloc_new _ _) rfl (by simp[Value.oneCell']) ⟨rfl,HX.out⟩ (by rw[zF];omega) (by omega) (by have:=HF4.out.xt.size;simp;omega) ?_;intro v5 w5 hown5 hg5;have HO5:Bx (ay w.heap.size 75 7 (cQ w) w5 v5 (l.take k++[(⟨⟨xs,xq⟩,xt,⟨xa,xb,xc,xd⟩⟩:aY)])):=⟨hown5⟩;have HE5:Bx (ab w w5):=⟨(HF4.out.xt.alloc _).grown hg5 HO4.out.ge⟩;have HD:=zZ (Gu (HW.out.ext (fun _ _ _ _ h _=>h) HE5.out));clear hown5 hg5))
    |(at_builtin;go_loud (refine dw _ rfl (.tmp 32) (.tmp 35) 28 rfl w.heap.size 75 iC _ 7 56 underlying28 hiC hC0 hC1 hC2 rfl (by omega) (cQ w) (nA w) v5 _ rfl HO5.out p _ 0 (c-k) (l.drop k) rfl HD.out (by simp[zF];omega) (by omega) (HE5.out.size) ?_;intro v6 w6 hown6 hg6;have HO6:Bx (ay w.heap.size 75 7 (cQ w) w6 v6 (l.take k++[(⟨⟨xs,xq⟩,xt,⟨xa,xb,xc,xd⟩⟩:aY)]++l.drop k)):=⟨hown6⟩;have HE6:Bx (ab w w6):=⟨HE5.out.grown hg6 HO5.out.ge⟩;clear hown6 hg6)))
   all_goals (go_ret;exact⟨v6,rfl,HI9.out▸HO6.out,HE6.out⟩)
theorem bg.map_{α:Type}{R:List Value→α→Prop}{R':World→List Value→α→Prop}{v:Value}{xs:List α}(h:bg p size (fun _=>R) w v xs)(hR:∀cs x,R cs x→R' w cs x):bg p size R' w v xs:=by obtain⟨A,c,hv,h1,h2,h4⟩:=h;refine⟨A,c,hv,h1,h2,fun k x hx=>?_⟩;obtain⟨b,off,cs,a1,a2,a3,a4,a5⟩:=h4 k x hx;exact⟨b,off,cs,a1,a2,a3,a4,hR _ _ a5⟩
theorem o8(R:List Value→Pg→Prop)(v:Value)(l:List Pg)(xc xg xt xs xq:Int)(Ax:Option Addr)(nx cx:Nat)(ch:List Int)(w:World)(hR:∀cs x,R cs x→j3 p w cs x)(hv:bg p 6 (fun _=>R) w v l)(hx:R [D G xc,D G xg,D G xt,I Ax nx cx,D G xs,D G xq] ⟨xc,xg,xt,ch,⟨xs,xq⟩⟩)(hn:l.length≤1000) :
  Calls prog 62 #[v,.agg #[D G xc,D G xg,D G xt,I Ax nx cx,D G xs,D G xq]] w fun e w'=>∃vo:Value,e=.returned vo∧ay w.heap.size 77 6 R w' vo (gF cM ⟨xc,xg,xt,ch,⟨xs,xq⟩⟩ l)∧ab w w':=by
 have hv0:ke p w v l:=hv.map_ hR;obtain⟨A,n,c,rfl,hnc,hcc,hnn,HL⟩:=hv.open_;obtain⟨iC,hiC,hC0,hC1,hC2⟩:=info_parts Tryz.infoPg;have HX:Bx (R [D G xc,D G xg,D G xt,I Ax nx cx,D G xs,D G xq] ⟨xc,xg,xt,ch,⟨xs,xq⟩⟩):=⟨hx⟩
 have hn3:n≤1000:=by have:=HL.out;omega
 have HV:Bx (ke p w (I A n c) l):=⟨hv0⟩
 have HW:Bx (bg p 6 (fun _=>R) w (I A n c) l):=⟨hv⟩
 have HF:Bx (ae w (w.alloc (.cells #[D G xc,D G xg,D G xt,I Ax nx cx,D G xs,D G xq] 77)) [(w.heap.size,#[D G xc,D G xg,D G xt,I Ax nx cx,D G xs,D G xq],77)]):=⟨(ae.start w).push _ _ rfl⟩
 clear hv hv0 hn hx;go_enter func62,ntmps62
 go_upto_region 1 with (fail)
 obtain⟨w1,hw1⟩:=nm ((w.alloc (.cells #[D G xc,D G xg,D G xt,I Ax nx cx,D G xs,D G xq] 77)):World);rw[←hw1]at HF;rw[←hw1];clear hw1;go_wp2_with fail;go_loopw [5] (fun s5 wr=>∃k:Nat,s5=D G k∧k≤n∧Bx (ae w wr [(w.heap.size,#[D G xc,D G xg,D G xt,I Ax nx cx,D G xs,D G xq],77)]∧∀(j:Nat) y,j<k→l[j]?=some y→cM y ⟨xc,xg,xt,ch,⟨xs,xq⟩⟩=true)) (fun k _=>n-(intOf k).toNat)
 case atStart=>exact⟨0,rfl,by omega,⟨⟨HF.out,fun j y hj=>by omega⟩⟩⟩
 case round =>
  obtain⟨k,rfl,hk,HR⟩:=hrel;have HFd:Bx (ae w wr.drew [(w.heap.size,#[D G xc,D G xg,D G xt,I Ax nx cx,D G xs,D G xq],77)]):=⟨HR.out.1.drew⟩
  have HA:Bx (∀(j:Nat) y,j<k→l[j]?=some y→cM y ⟨xc,xg,xt,ch,⟨xs,xq⟩⟩=true):=⟨HR.out.2⟩
  clear HR;by_cases hkn:k<n
  ·obtain⟨b,off,_,_,rfl,-⟩:=HV.out.at_ hkn;obtain⟨cs,⟨yc,yg,yt,ych,⟨ys,yq⟩⟩,-,hc0,⟨uy,hcs,⟨Ay,cy,huy,-⟩,-⟩,HY⟩:=(HV.out.ext (j3.stab p) HFd.out.xt).cell_ hkn;subst huy;obtain⟨ny,hny⟩:=nm (ych.length:Nat);rw[show ({cand:=yc,page:=yg,cont:=yt,ch:=ych,scan:=⟨ys,yq⟩}:Pg).ch.length=ny from hny.symm]at hcs;have y0:=hc0 0 (D G yc) (by rw[hcs];rfl);have y1:=hc0 1 (D G yg) (by rw[hcs];rfl);have y2:=hc0 2 (D G yt) (by rw[hcs];rfl);have y3:=hc0 3 (I Ay ny cy) (by rw[hcs];rfl);have y4:=hc0 4 (D G ys) (by rw[hcs];rfl);have y5:=hc0 5 (D G yq) (by rw[hcs];rfl);rw[yP]at y0;have kS:wr.drew.cell? ⟨b,off+k*6,none⟩=some (D G yc)∧wr.drew.cell? ⟨b,off+k*6+1,none⟩=some (D G yg)∧wr.drew.cell? ⟨b,off+k*6+2,none⟩=some (D G yt)∧wr.drew.cell? ⟨b,off+k*6+3,none⟩=some (I Ay ny cy)∧wr.drew.cell? ⟨b,off+k*6+4,none⟩=some (D G ys)∧wr.drew.cell? ⟨b,off+k*6+5,none⟩=some (D G yq)∧wr.drew.cell? ⟨w.heap.size,0,none⟩=some (D G xc)∧wr.drew.cell? ⟨w.heap.size,1,none⟩=some (D G xg)∧wr.drew.cell? ⟨w.heap.size,2,none⟩=some (D G xt)∧wr.drew.cell? ⟨w.heap.size,3,none⟩=some (I Ax nx cx)∧wr.drew.cell? ⟨w.heap.size,4,none⟩=some (D G xs)∧wr.drew.cell? ⟨w.heap.size,5,none⟩=some (D G xq):=⟨y0,y1,y2,y3,y4,y5,(HFd.out.at_ 0 rfl).c 0 rfl,(HFd.out.at_ 0 rfl).c 1 rfl,(HFd.out.at_ 0 rfl).c 2 rfl,(HFd.out.at_ 0 rfl).c 3 rfl,(HFd.out.at_ 0 rfl).c 4 rfl,(HFd.out.at_ 0 rfl).c 5 rfl⟩
   clear hc0 hcs hny y0 y1 y2 y3 y4 y5;go_upto_region 2 with (fail)
   refine zR 99 (fun w'=>w'.cell? ⟨b,off+k*6,none⟩=some (D G yc)∧w'.cell? ⟨b,off+k*6+1,none⟩=some (D G yg)∧w'.cell? ⟨b,off+k*6+2,none⟩=some (D G yt)∧w'.cell? ⟨b,off+k*6+3,none⟩=some (I Ay ny cy)∧w'.cell? ⟨b,off+k*6+4,none⟩=some (D G ys)∧w'.cell? ⟨b,off+k*6+5,none⟩=some (D G yq)∧w'.cell? ⟨w.heap.size,0,none⟩=some (D G xc)∧w'.cell? ⟨w.heap.size,1,none⟩=some (D G xg)∧w'.cell? ⟨w.heap.size,2,none⟩=some (D G xt)∧w'.cell? ⟨w.heap.size,3,none⟩=some (I Ax nx cx)∧w'.cell? ⟨w.heap.size,4,none⟩=some (D G xs)∧w'.cell? ⟨w.heap.size,5,none⟩=some (D G xq)) ?_;refine zS 10 [(0,7),(1,8),(2,9),(3,10),(4,11),(5,12),(6,13),(7,14),(8,15),(9,16)] kS ?_;iterate 10 (apply zT;exact⟨rfl,rfl⟩;(·intro _ _;go_simp;try with_reducible rfl);simp only[kA];exact rfl)
   refine zN (zO 10 (fun K hK=>?_));go_simp;refine (lB yc yg yt ys yq xc xg xt xs xq Ay Ax ny cy nx cx _).mono ?_;rintro e w3 ⟨rfl,hx3⟩;have HF3:=bx (HFd.out.ext hx3);have kS2:w3.cell? ⟨b,off+k*6,none⟩=some (D G yc)∧w3.cell? ⟨b,off+k*6+1,none⟩=some (D G yg)∧w3.cell? ⟨b,off+k*6+2,none⟩=some (D G yt)∧w3.cell? ⟨b,off+k*6+3,none⟩=some (I Ay ny cy)∧w3.cell? ⟨b,off+k*6+4,none⟩=some (D G ys)∧w3.cell? ⟨b,off+k*6+5,none⟩=some (D G yq)∧w3.cell? ⟨w.heap.size,0,none⟩=some (D G xc)∧w3.cell? ⟨w.heap.size,1,none⟩=some (D G xg)∧w3.cell? ⟨w.heap.size,2,none⟩=some (D G xt)∧w3.cell? ⟨w.heap.size,3,none⟩=some (I Ax nx cx)∧w3.cell? ⟨w.heap.size,4,none⟩=some (D G xs)∧w3.cell? ⟨w.heap.size,5,none⟩=some (D G xq):=⟨hx3.cell kS.1,hx3.cell kS.2.1,hx3.cell kS.2.2.1,hx3.cell kS.2.2.2.1,hx3.cell kS.2.2.2.2.1,hx3.cell kS.2.2.2.2.2.1,hx3.cell kS.2.2.2.2.2.2.1,hx3.cell kS.2.2.2.2.2.2.2.1,hx3.cell kS.2.2.2.2.2.2.2.2.1,hx3.cell kS.2.2.2.2.2.2.2.2.2.1,hx3.cell kS.2.2.2.2.2.2.2.2.2.2.1,hx3.cell kS.2.2.2.2.2.2.2.2.2.2.2⟩
   clear hx3 kS HFd;cases hlt:decide (yc<xc∨(yc=xc∧yg<xg)) with
   |true =>
    replace hlt:=zZ hlt;refine hK.out _ _ (fun _=>(kS2)) ?_;clear hK K;try simp only[kA]
    refine zS 1 [(11,18)] kS2 ?_;(apply zT;exact⟨rfl,rfl⟩;(·intro _ _;go_simp;try with_reducible rfl);simp only[kA];exact rfl);refine zN (zD ?_);clear kS2;go_wp2_with fail;go_roundw
    case rel=>exact⟨k+1,by go_num,by omega,⟨⟨HF3.out,fun j y hj hy=>by rcases zV j k with h|h;exact HA.out j y h hy;obtain rfl:j=k:=(by omega);rw[HY.out]at hy;injection hy with hy;subst hy;exact hlt.out⟩⟩⟩
    case measure=>simp[intOf];omega
   |false =>
    replace hlt:=zZ hlt;refine hK.out _ _ (fun _=>(kS2)) ?_;clear hK K;try simp only[kA]
    refine zS 1 [(11,18)] kS2 ?_;(apply zT;exact⟨rfl,rfl⟩;(·intro _ _;go_simp;try with_reducible rfl);simp only[kA];exact rfl);refine zN (zD ?_);clear kS2;obtain⟨Az,hAz⟩:=nm (some ⟨b,off,none⟩:Option Addr);rw[←hAz]at HV HW;rw[←hAz];clear hAz;have HB:Bx (∀y,l[k]?=some y→cM y (⟨xc,xg,xt,ch,⟨xs,xq⟩⟩:Pg)=false):=⟨fun y hy=>by rw[HY.out]at hy;injection hy with hy;subst hy;exact hlt.out⟩
    have HI9:=zZ (jK HA.out HB.out (by have:=HL.out;omega));have HT:=zZ ((HW.out.ext (fun _ _ _ _ h _=>h) HF3.out.xt).take hk);go_wp2_with (first
     |(at_builtin;(refine dw _ rfl (.tmp 21) (.tmp 24) 29 rfl w.heap.size 77 iC _ 6 64 underlying29 hiC hC0 hC1 hC2 rfl (by omega) R (fun cs x h=>rN p w cs x (hR cs x h)) (I none 0 0) [] rfl ay.nil p _ k c (l.take k) rfl HT.out (by simp;omega) (by omega) (HF3.out.xt.size) ?_;intro v4 w4 hown4 hg4;have HO4:Bx (ay w.heap.size 77 6 R w4 v4 (l.take k)):=⟨hown4⟩;have HF4:=zZ (HF3.out.grown hg4 (by simp[Value.ownBlock]) (by simp[Value.ownBlock]));clear hown4 hg4;have z0:=(HF4.out.at_ 0 rfl).c 0 rfl;have z1:=(HF4.out.at_ 0 rfl).c 1 rfl;have z2:=(HF4.out.at_ 0 rfl).c 2 rfl;have z3:=(HF4.out.at_ 0 rfl).c 3 rfl;have z4:=(HF4.out.at_ 0 rfl).c 4 rfl;have z5:=(HF4.out.at_ 0 rfl).c 5 rfl))
     |(at_builtin;(refine fW _ rfl (.tmp 26) (.tmp 28) 29 rfl w.heap.size 77 iC _ 6 64 underlying29 hiC hC0 hC1 hC2 rfl (by omega) R v4 (l.take k) rfl (HO4.out.ext ((zE _).alloc _)) _ #[D G xc,D G xg,D G xt,I Ax nx cx,D G xs,D G xq] _ (⟨xc,xg,xt,ch,⟨xs,xq⟩⟩:Pg) rfl (heap_alloc_new _ _) rfl (by simp[Value.oneCell']) HX.out (by rw[zF];omega) (by omega) (by have:=HF4.out.xt.size;simp;omega) ?_;intro v5 w5 hown5 hg5;have HO5:Bx (ay w.heap.size 77 6 R w5 v5 (l.take k++[(⟨xc,xg,xt,ch,⟨xs,xq⟩⟩:Pg)])):=⟨hown5⟩;have HE5:Bx (ab w w5):=⟨(HF4.out.xt.alloc _).grown hg5 HO4.out.ge⟩;have HD:=zZ (GA (HW.out.ext (fun _ _ _ _ h _=>h) HE5.out) hk (by omega));clear hown5 hg5))
     |(at_builtin;go_loud (refine dw _ rfl (.tmp 30) (.tmp 33) 29 rfl w.heap.size 77 iC _ 6 64 underlying29 hiC hC0 hC1 hC2 rfl (by omega) R (fun cs x h=>rN p w cs x (hR cs x h)) v5 _ rfl HO5.out p _ (n-k) (c-k) (l.drop k) rfl HD.out (by simp[zF];omega) (by omega) (HE5.out.size) ?_;intro v6 w6 hown6 hg6;have HO6:Bx (ay w.heap.size 77 6 R w6 v6 (l.take k++[(⟨xc,xg,xt,ch,⟨xs,xq⟩⟩:Pg)]++l.drop k)):=⟨hown6⟩;have HE6:Bx (ab w w6):=⟨HE5.out.grown hg6 HO5.out.ge⟩;clear hown6 hg6)))
    all_goals (go_ret;exact⟨v6,rfl,HI9.out▸HO6.out,HE6.out⟩)
  ·obtain rfl:k=n:=by omega
   have kS:True:=trivial;go_upto_region 2 with (fail)
   refine zR 99 (fun _=>True) ?_;refine zS 5 [(0,7),(1,8),(2,9),(3,10),(4,11)] kS ?_;iterate 5 (apply zT;exact⟨rfl,rfl⟩;(·intro _ _;go_simp;try with_reducible rfl);simp only[kA];exact rfl)
   refine zN (zS 6 [(5,12),(6,13),(7,14),(8,15),(9,16),(10,17)] kS ?_);iterate 6 (apply zK;exact⟨rfl,rfl⟩;simp only[kA];exact rfl)
   refine zN (zS 1 [(11,18)] kS ?_);(apply zT;exact⟨rfl,rfl⟩;(·intro _ _;go_simp;try with_reducible rfl);simp only[kA];exact rfl);refine zN (zD ?_);clear kS;have HB:Bx (∀y,l[k]?=some y→cM y (⟨xc,xg,xt,ch,⟨xs,xq⟩⟩:Pg)=false):=⟨fun y hy=>by have:=(zY.1 hy).1;have:=HL.out;omega⟩
   have HI9:=zZ (jK HA.out HB.out (by have:=HL.out;omega));have HT:=zZ ((HW.out.ext (fun _ _ _ _ h _=>h) HFd.out.xt).take hk);go_wp2_with (first
    |(at_builtin;(refine dw _ rfl (.tmp 21) (.tmp 24) 29 rfl w.heap.size 77 iC _ 6 64 underlying29 hiC hC0 hC1 hC2 rfl (by omega) R (fun cs x h=>rN p w cs x (hR cs x h)) (I none 0 0) [] rfl ay.nil p _ k c (l.take k) rfl HT.out (by simp;omega) (by omega) (HFd.out.xt.size) ?_;intro v4 w4 hown4 hg4;have HO4:Bx (ay w.heap.size 77 6 R w4 v4 (l.take k)):=⟨hown4⟩;have HF4:=zZ (HFd.out.grown hg4 (by simp[Value.ownBlock]) (by simp[Value.ownBlock]));clear hown4 hg4;have z0:=(HF4.out.at_ 0 rfl).c 0 rfl;have z1:=(HF4.out.at_ 0 rfl).c 1 rfl;have z2:=(HF4.out.at_ 0 rfl).c 2 rfl;have z3:=(HF4.out.at_ 0 rfl).c 3 rfl;have z4:=(HF4.out.at_ 0 rfl).c 4 rfl;have z5:=(HF4.out.at_ 0 rfl).c 5 rfl))
    |(at_builtin;(refine fW _ rfl (.tmp 26) (.tmp 28) 29 rfl w.heap.size 77 iC _ 6 64 underlying29 hiC hC0 hC1 hC2 rfl (by omega) R v4 (l.take k) rfl (HO4.out.ext ((zE _).alloc _)) _ #[D G xc,D G xg,D G xt,I Ax nx cx,D G xs,D G xq] _ (⟨xc,xg,xt,ch,⟨xs,xq⟩⟩:Pg) rfl (heap_alloc_new _ _) rfl (by simp[Value.oneCell']) HX.out (by rw[zF];omega) (by omega) (by have:=HF4.out.xt.size;simp;omega) ?_;intro v5 w5 hown5 hg5;have HO5:Bx (ay w.heap.size 77 6 R w5 v5 (l.take k++[(⟨xc,xg,xt,ch,⟨xs,xq⟩⟩:Pg)])):=⟨hown5⟩;have HE5:Bx (ab w w5):=⟨(HF4.out.xt.alloc _).grown hg5 HO4.out.ge⟩;have HD:=zZ (Gu (HW.out.ext (fun _ _ _ _ h _=>h) HE5.out));clear hown5 hg5))
    |(at_builtin;go_loud (refine dw _ rfl (.tmp 30) (.tmp 33) 29 rfl w.heap.size 77 iC _ 6 64 underlying29 hiC hC0 hC1 hC2 rfl (by omega) R (fun cs x h=>rN p w cs x (hR cs x h)) v5 _ rfl HO5.out p _ 0 (c-k) (l.drop k) rfl HD.out (by simp[zF];omega) (by omega) (HE5.out.size) ?_;intro v6 w6 hown6 hg6;have HO6:Bx (ay w.heap.size 77 6 R w6 v6 (l.take k++[(⟨xc,xg,xt,ch,⟨xs,xq⟩⟩:Pg)]++l.drop k)):=⟨hown6⟩;have HE6:Bx (ab w w6):=⟨HE5.out.grown hg6 HO5.out.ge⟩;clear hown6 hg6)))
   all_goals (go_ret;exact⟨v6,rfl,HI9.out▸HO6.out,HE6.out⟩)
theorem C0(v:Value)(l:List Int)(w:World)(hp:p<w.heap.size)(h:ao p w v l)(hl:l.length≤1000) :
  Calls prog 136 #[v] w fun e w'=>∃v',e=.returned v'∧ao p w' v' l∧ab w w':=by
 obtain⟨A,n,c,rfl,hnc,hc,hnn,HL⟩:=h.open_;have hn:n≤1000:=by have:=HL.out;omega
 have H:=zZ h;clear h hl;obtain⟨i0,hi0,hz0,hz1,hz2⟩:=info_parts Tryz.infoI;have q28:∀(w:World) (a:Option Addr) (n c n' c':Nat),(binOp .eql 22 (I a n c) (I none n' c')).run prog w=.ok (.bool a.isNone) w:=fun w a n c n' c'=>Lib.run_eql_slice_nil w _ _ a n c n' c' underlying22;rcases A with _|⟨b,off,ix⟩
 ·go_enter func136,ntmps136
  go_wp2_with fail;go_ret
  refine⟨_,rfl,?_,zE _⟩;have:l=[]:=by
   rcases xW n with h0|h0
   ·exact yO (by have:=HL.out;omega)
   ·obtain⟨b,off,x,hb,_⟩:=H.out.at_ h0;cases hb
  rw[this];exact ao.nil _ _
 ·go_enter func136,ntmps136
  have HO:Hid ((w.alloc (.cells #[] 3)).ownsRow w.heap.size 3 1 (I (some ⟨w.heap.size,0,none⟩) 0 0) 0 []):=World.ownsRow_lit w #[] 0 (zX _) (by unfold maxLen;omega) rfl;go_wp2_with (at_builtin;refine dj _ rfl (.tmp 5) (.tmp 6) 22 rfl w.heap.size 3 i0 _ 8 underlying22 hi0 hz0 hz1 hz2 rfl _ 0 [] rfl HO.out p (some ⟨b,off,ix⟩) n c l rfl (H.out.ext ((zE _).alloc _)) (by omega) (by omega) (by simp) ?_;intro v' w' hown hg);go_ret
  refine⟨_,rfl,ao.of_own (base:=w.heap.size) (e:=3) (by simpa using hown) hp (fun x hx=>H.out.mem hx) (by have:=HL.out;omega),?_⟩;exact ab.grown ((zE _).alloc _) hg (fun k hk=>by have:=ar HO.out k hk;omega)
def E6(p:Nat)(w:World)(fs:List eh)(cs:List Int)(e:Ending)(w':World):Prop :=
 ∃(v:Value) (rs:List (List Int)) (er:Int),e=.returned (.tuple #[v,D G er])∧kL p w' v rs∧ab w w' ∧
  (fs.length≠cs.length→rs=[]∧er=1)∧(fs.length=cs.length→rs=dY fs cs cs.length∧er=0)
end Go.Proofs.YtjgfgdcaocbfhaaGreat

