import Derived.Test.YtkaajgoeahahpaaGreatDoorK24
set_option linter.all false
set_option maxRecDepth 100000
set_option maxHeartbeats 0
namespace Go.Proofs.YtkaajgoeahahpaaGreatDoor
open Go.Value renaming int→D,slice→H
open Go.IntKind renaming i64→G
open Go.RowKit
variable {i p:Nat}
def tU(l:List dF)(id:gT):Option dF:=l.find? fun x=>decide (x.scan=id)
theorem Cp{l E:List aj}(hE:iT rV E)(hv:∀e∈E,dT e.st=true)(hi:∀e∈E,∀c∈l,e.id≠c.id)(hee:∀e∈E,∀e'∈E,e.id=e'.id->e=e')(ha:∀c∈l,dT c.st=true->∀e∈E,rV c e=true):ay (l++E)=ay l++E:=by
 refine (ir ?_ fun c=>?_).symm
 ·refine xJ.2 ⟨jE l,hE,fun a h1 b h2=>?_⟩;have:=gf.1 h1;exact ha a this.1 (eu.1 this.2).1 b h2
 ·rw[zM,gf,zM,eu,eu];constructor
  ·rintro (⟨h1,h2,h3⟩|h)
   ·refine⟨.inl h1,h2,fun d hd hdv hdi=>?_⟩;rcases zM.1 hd with hd|hd
    ·exact h3 d hd hdv hdi
    ·exact absurd hdi (hi d hd c h1)
   ·refine⟨.inr h,hv c h,fun d hd _ hdi=>?_⟩;rcases zM.1 hd with hd|hd
    ·exact absurd hdi.symm (hi c h d hd)
    ·exact hee d hd c h hdi
  ·rintro⟨h1,h2,h3⟩;rcases h1 with h1|h1
   ·exact .inl ⟨h1,h2,fun d hd=>h3 d (zM.2 (.inl hd))⟩
   ·exact .inr h1
section
variable {C E:List aj} {id:gT}
theorem pt(h:∀e∈E,dm id e=false):(C++E).find? (dm id)=C.find? (dm id):=by
 rw[List.find?_append];have:E.find? (dm id)=none:=by rw[List.find?_eq_none];intro e he;rw[h e he];simp
 rw[this];simp
theorem De(h:∀e∈E,dm id e=false){d:aj}(hd:(E.filter (fH id)).getLast?=some d):aQ (C++E) id=iI (C.find? (dm id)) (some d):=by unfold aQ;rw[pt h,xM,List.getLast?_append,hd];rfl
theorem CU(h:∀e∈E,dm id e=false)(hd:∀e∈E,fH id e=false):aQ (C++E) id=aQ C id:=by
 unfold aQ;have:E.filter (fH id)=[]:=by rw[List.filter_eq_nil_iff];intro e he;rw[hd e he];simp
 rw[pt h,xM,this,xN]
end
section
variable {s:dl}
theorem wg{R R':List dH}{i':Nat}{x:dH}(hall:∀y,dB x y=true->(y∈R↔y∈R'))(hto:∀y,dB x y=true->(y∈R.take i↔y∈R'.take i')):cR R i x=cR R' i' x:=by
 have h1:(R.any fun y=>dB x y&&en x y)=(R'.any fun y=>dB x y&&en x y):=by
  rw[yE,wZ,wZ];constructor
  ·rintro⟨y,hy,hs⟩;exact⟨y,(hall y (Bool.and_eq_true_iff.1 hs).1).1 hy,hs⟩
  ·rintro⟨y,hy,hs⟩;exact⟨y,(hall y (Bool.and_eq_true_iff.1 hs).1).2 hy,hs⟩
 have h2:(R.take i).any (dB x)=(R'.take i').any (dB x):=by
  rw[yE,wZ,wZ];constructor
  ·rintro⟨y,hy,hs⟩;exact⟨y,(hto y hs).1 hy,hs⟩
  ·rintro⟨y,hy,hs⟩;exact⟨y,(hto y hs).2 hy,hs⟩
 unfold cR dL;rw[h1,h2]
theorem i6{R:List dH}{x:dH}(hf:x.fit=true)(h:cR R i x=3):∃y∈R,dB x y=true/\en x y=true:=by
 unfold cR at h;rw[if_pos hf]at h;unfold dL at h;split at h
 ·rename_i ha
  obtain⟨y,hy,hs⟩:=wZ.1 ha;exact⟨y,hy,Bool.and_eq_true_iff.1 hs⟩
 ·split at h<;>omega
theorem uG{R:List dH}{x y:dH}(hf:x.fit=true)(hy:y∈R)(h1:dB x y=true)(h2:en x y=true):cR R i x=3:=by unfold cR;rw[if_pos hf];unfold dL;rw[if_pos (wZ.2 ⟨y,hy,by rw[h1,h2];rfl⟩)]
theorem sT{x y:dH}:en x y=en y x:=by unfold en;rw[yE];simp only[uY,Bool.and_eq_false_iff,decide_eq_false_iff_not];exact⟨fun h=>h.imp (fun k e=>k e.symm) (fun k e=>k e.symm),fun h=>h.imp (fun k e=>k e.symm) (fun k e=>k e.symm)⟩
theorem BV{x y z:dH}(h:en x y=true):en x z=true\/en z y=true:=by
 unfold en at *
 simp only[uY,Bool.and_eq_false_iff,decide_eq_false_iff_not]at *;by_cases h1:z.cap.cont=x.cap.cont
 ·by_cases h2:z.cap.ch=x.cap.ch
  ·refine .inr ?_;rw[h1,h2];exact h
  ·exact .inl (.inr h2)
 ·exact .inl (.inl h1)
theorem k9{R:List dH}{k:Nat}{x z:dH}(hx:R[i]?=some x)(hfx:x.fit=true)(hfz:z.fit=true)(hl:z.lab=x.lab)(h:cR R i x=3):cR R k z=3:=by
 obtain⟨y,hy,h1,h2⟩:=i6 hfx h;unfold dB at h1;simp only[yT,decide_eq_true_eq]at h1;rcases BV (z:=z) h2 with h3|h3
 ·exact uG hfz (zW hx) (by unfold dB;rw[hfx,hl];simp) (by rw[sT];exact h3)
 ·exact uG hfz hy (by unfold dB;rw[h1.1,h1.2,hl];simp) h3
end
def IM(R:List dH)(c g:Int)(j:Nat):Bool:=match R[j]? with
 |some y=>y.fit&&(decide (y.lab.c=c)&&decide (y.lab.g=g))
 |none=>false
def ed(R:List dH)(k:Nat)(c g:Int):List Nat:=(List.range k).filter (IM R c g)
def kr(R:List dH)(y0:dH)(j:Nat):Bool:=match R[j]? with
 |some y=>en y0 y
 |none=>false
theorem zp(R:List dH)(k:Nat)(c g:Int):ed R (k+1) c g=if IM R c g k then ed R k c g++[k] else ed R k c g:=by
 unfold ed;rw[xP,xM];cases h:IM R c g k with
 |true=>rw[if_pos rfl,uC h];rfl
 |false=>rw[if_neg (by simp),uB (by simp[h])];simp
theorem lh{R:List dH}{k j:Nat}{c g:Int}:j∈ed R k c g↔j<k/\IM R c g j=true:=by unfold ed;rw[xR,yX]
section
variable {s:dl} {l:List aj}
theorem kq{j:Nat}{x y:dH}(hx:(af s l)[i]?=some x)(hfx:x.fit=true)(hy:(af s l)[j]?=some y):IM (af s l) x.lab.c x.lab.g j=dB x y:=by
 unfold IM dB;rw[hy];simp only;cases hf:y.fit with
 |false=>rfl
 |true =>
  rw[yK,yK,yE];simp only[yT,decide_eq_true_eq];constructor
  ·rintro⟨h1,h2⟩;have ex:=(de hx).2;have ey:=(de hy).2;have gx:=(lK (s:=s) (l:=l) (c:=x.cap) (by rw[<-ex];exact hfx)).2.1;have gy:=(lK (s:=s) (l:=l) (c:=y.cap) (by rw[<-ey];exact hf)).2.1;rw[<-ex]at gx;rw[<-ey]at gy;exact BT gy gx h1 h2
  ·intro h;rw[h];exact⟨rfl,rfl⟩
theorem Ex{x:dH}(hx:(af s l)[i]?=some x)(hf:x.fit=true) :
  ∃j0 t y0,ed (af s l) l.length x.lab.c x.lab.g=j0::t/\j0<=i/\(af s l)[j0]?=some y0 /\
   dL (af s l) i x=if (j0::t).any (kr (af s l) y0) then 3 else if i=j0 then 1 else 2:=by
 have hil:i<l.length:=by have:=(zY.1 hx).1;rwa [jw]at this
 have hin:i∈ed (af s l) l.length x.lab.c x.lab.g:=lh.2 ⟨hil,by rw[kq hx hf hx];unfold dB;rw[hf];simp⟩;obtain⟨j0,t,hG⟩:∃j0 t,ed (af s l) l.length x.lab.c x.lab.g=j0::t:=by
  cases hg:ed (af s l) l.length x.lab.c x.lab.g with
  |nil=>rw[hg]at hin;simp at hin
  |cons a b=>exact⟨a,b,rfl⟩
 have hj0:=lh.1 (show j0∈ed (af s l) l.length x.lab.c x.lab.g by rw[hG];simp);have hy0:(af s l)[j0]?=some ((af s l)[j0]'(by rw[jw];exact hj0.1)):=zV _;generalize (af s l)[j0]'(by rw[jw];exact hj0.1)=y0 at hy0;have hasc:(j0::t).Pairwise (·<·):=by rw[<-hG];unfold ed;exact List.Pairwise.filter _ List.pairwise_lt_range
 have hj0i:j0<=i:=by
  rw[hG]at hin;rcases yM.1 hin with e|e
  ·omega
  ·have:=(xK.1 hasc).1 i e;omega
 refine⟨j0,t,y0,hG,hj0i,hy0,?_⟩;have hs0:dB x y0=true:=by rw[<-kq hx hf hy0];exact hj0.2
 unfold dL;have hany:((af s l).any fun y=>dB x y&&en x y)=(j0::t).any (kr (af s l) y0):=by
  rw[yE,wZ,wZ];constructor
  ·rintro⟨y,hy,hs⟩;obtain⟨h1,h2⟩:=Bool.and_eq_true_iff.1 hs;obtain⟨k,hk⟩:=zH hy;have hkl:k<l.length:=by have:=(zY.1 hk).1;rwa [jw]at this
   rcases BV (z:=y0) h2 with h3|h3
   ·refine⟨i,by rw[<-hG];exact hin,?_⟩;unfold kr;rw[hx];simp only;rw[sT];exact h3
   ·refine⟨k,?_,?_⟩
    ·rw[<-hG];exact lh.2 ⟨hkl,by rw[kq hx hf hk];exact h1⟩
    ·unfold kr;rw[hk];exact h3
  ·rintro⟨k,hk,hd⟩;rw[<-hG]at hk;obtain⟨h1,h2⟩:=lh.1 hk;unfold kr at hd;cases hy:(af s l)[k]? with
   |none=>rw[hy]at hd;cases hd
   |some y =>
    rw[hy]at hd;simp only at hd;rw[kq hx hf hy]at h2;rcases BV (z:=x) hd with h3|h3
    ·exact⟨y0,zW hy0,by rw[hs0,sT,h3];rfl⟩
    ·exact⟨y,zW hy,by rw[h2,h3];rfl⟩
 have htk:((af s l).take i).any (dB x)=!decide (i=j0):=by
  by_cases e:i=j0
  ·subst e;rw[decide_eq_true rfl];simp only[Bool.not_true,wO];intro y hy hs;obtain⟨k,hk⟩:=zH hy;rw[yB]at hk;split at hk
   ·rename_i hki
    have hm:k∈ed (af s l) l.length x.lab.c x.lab.g:=lh.2 ⟨by omega,by rw[kq hx hf hk];exact hs⟩;rw[hG]at hm;rcases yM.1 hm with e|e
    ·omega
    ·have:=(xK.1 hasc).1 k e;omega
   ·cases hk
  ·rw[decide_eq_false e];simp only[Bool.not_false,wZ];refine⟨y0,zW (i:=j0) ?_,hs0⟩;rw[yB,if_pos (by omega)];exact hy0
 rw[hany,htk];by_cases e:i=j0
 ·simp[e]
 ·simp[e]
end
open _root_.Go.Proofs.Tryz
theorem yo(va vb:Value)(a b:List Int)(w:World){q:Nat}(ha:ak p w va a)(hb:ak q w vb b) :
  Calls prog 62 #[va,vb] w fun e w'=>e=.returned (.bool (decide (a=b)))/\ab w w':=by
 obtain⟨A,n,c,rfl,hnc,hc,hnn,HL⟩:=ha.open_;obtain⟨B,n',c',rfl,hnc',hc',hnn',HL'⟩:=hb.open_;have HA:=zZ ha;have HB:=zZ hb;clear ha hb;by_cases hn:n=n'
 ·subst hn;have e0:((n:Int)!=(n:Int))=false:=by simp
  go_enter func62,ntmps62
  go_wp2_with fail;go_loopw [13] (fun i wr=>∃(k m:Nat),k<=n/\i=D G k/\Hid (rB a b k)/\wr=w.drewN m) (fun i _=>n-(intOf i).toNat)
  case atStart=>exact⟨0,0,xL _,rfl,rB.zero _ _,rfl⟩
  case round =>
   obtain⟨k,m,hk,rfl,HK,rfl⟩:=hrel;by_cases hlt:k<n
   ·obtain⟨b1,o1,x,rfl,hcx,HX,hx1,hx2⟩:=HA.out.at_ hlt;obtain⟨b2,o2,y,rfl,hcy,HY,hy1,hy2⟩:=HB.out.at_ hlt;by_cases e:x=y
    ·have e1:(x != y)=false:=by simp[e]
     have E:=zZ e;clear e;go_wp2_with fail;go_quiet (fail)
     go_wp2_with fail;go_roundw
     case rel=>exact⟨k+1,_,by omega,by go_num,HK.out.succ HX.out HY.out E.out,rfl⟩
     case measure=>simp[intOf];omega
    ·have e1:(x != y)=true:=by simp[e]
     have E:=zZ e;clear e;go_wp2_with fail;go_quiet (fail)
     go_wp2_with fail;go_ret
     exact⟨aa (by have:=JZ HX.out HY.out E.out;simp[this]),by rw[World.drewN_drewN];exact (zE _).drewN _⟩
   ·obtain rfl:k=n:=by omega
    go_wp2_with fail;go_ret
    exact⟨aa (by have:=HK.out.all HL.out HL'.out;simp[this]),(zE _).drewN _⟩
 ·have e1:((n:Int)!=(n':Int))=true:=by simp;omega
  have HN:Hid (a≠b):=by rintro rfl;exact hn (HL.out.symm.trans HL'.out)
  clear hn;go_enter func62,ntmps62
  go_wp2_with fail;go_ret
  exact⟨aa (by have:=HN.out;simp[this]),zE _⟩
theorem jq(xt xs xq xk xct xts xtq xlp xlc xlg xlv yt ys yq yk yct yts ytq ylp ylc ylg ylv:Int)(xstr ystr:List UInt8)(xch ych:List Int)(xA yA:Option Addr)(xn xcc yn ycc:Nat)(w:World){q:Nat}(ha:ak p w (H xA xn xcc) xch)(hb:ak q w (H yA yn ycc) ych) :
  Calls prog 26 #[.agg #[D G xt,D G xs,D G xq,D G xk,.string (ba xstr),D G xct,H xA xn xcc,D G xts,D G xtq,D G xlp,D G xlc,D G xlg,D G xlv],.agg #[D G yt,D G ys,D G yq,D G yk,.string (ba ystr),D G yct,H yA yn ycc,D G yts,D G ytq,D G ylp,D G ylc,D G ylg,D G ylv]] w fun e w'=>e=.returned (.bool (decide ((⟨⟨xt,xs,xq⟩,xk,xstr,xct,xch,⟨xts,xtq⟩,⟨xlp,xlc,xlg,xlv⟩⟩:aj)=⟨⟨yt,ys,yq⟩,yk,ystr,yct,ych,⟨yts,ytq⟩,⟨ylp,ylc,ylg,ylv⟩⟩)))/\ab w w':=by
 have e1:=fun W=>vx xt xs xq yt ys yq W;have e2:=fun W=>jW xts xtq yts ytq W;have e3:=fun W=>ox xlp xlc xlg xlv ylp ylc ylg ylv W;have g1:=nt;have g2:=fC;have g3:=ij;have HA:Bx (ak p w (H xA xn xcc) xch/\ak q w (H yA yn ycc) ych):=⟨⟨ha,hb⟩⟩
 clear ha hb;go_enter func26,ntmps26
 go_wp2_with (go_at_call 62;refine (yo _ _ xch ych _ (HA.out.1.ext (((zE _).alloc _).alloc _)) (HA.out.2.ext (((zE _).alloc _).alloc _))).mono ?_;rintro e w1 ⟨rfl,hx1⟩;have HE:=zZ ((((zE w).alloc _).alloc _).trans hx1);have q07:w1.cell? ⟨w.heap.size,7,none⟩=some (D G xts):=hx1.cell (by simp[go_sem,yI,yH]);have q08:w1.cell? ⟨w.heap.size,8,none⟩=some (D G xtq):=hx1.cell (by simp[go_sem,yI,yH]);have q09:w1.cell? ⟨w.heap.size,9,none⟩=some (D G xlp):=hx1.cell (by simp[go_sem,yI,yH]);have q010:w1.cell? ⟨w.heap.size,10,none⟩=some (D G xlc):=hx1.cell (by simp[go_sem,yI,yH]);have q011:w1.cell? ⟨w.heap.size,11,none⟩=some (D G xlg):=hx1.cell (by simp[go_sem,yI,yH]);have q012:w1.cell? ⟨w.heap.size,12,none⟩=some (D G xlv):=hx1.cell (by simp[go_sem,yI,yH]);have q17:w1.cell? ⟨w.heap.size+1,7,none⟩=some (D G yts):=hx1.cell (by simp[go_sem,yI,yH]);have q18:w1.cell? ⟨w.heap.size+1,8,none⟩=some (D G ytq):=hx1.cell (by simp[go_sem,yI,yH]);have q19:w1.cell? ⟨w.heap.size+1,9,none⟩=some (D G ylp):=hx1.cell (by simp[go_sem,yI,yH]);have q110:w1.cell? ⟨w.heap.size+1,10,none⟩=some (D G ylc):=hx1.cell (by simp[go_sem,yI,yH]);have q111:w1.cell? ⟨w.heap.size+1,11,none⟩=some (D G ylg):=hx1.cell (by simp[go_sem,yI,yH]);have q112:w1.cell? ⟨w.heap.size+1,12,none⟩=some (D G ylv):=hx1.cell (by simp[go_sem,yI,yH]);clear hx1);all_goals (go_ret;refine⟨aa ?_,?_⟩)
 all_goals (first|exact HE.out|exact ((zE _).alloc _).alloc _|(rw[yE];simp only[decide_eq_true_eq,J4];simp_all)|skip)
 all_goals trace_state
theorem ui(t s q k ct ts tq lp lc lg lv:Int)(b:ByteArray)(A:Option Addr)(n cc:Nat)(w:World) :
  Calls prog 67 #[.agg #[D G t,D G s,D G q,D G k,.string b,D G ct,H A n cc,D G ts,D G tq,D G lp,D G lc,D G lg,D G lv]] w fun e w'=>e=.returned (.agg #[D G s,D G q])/\ab w w':=by
 go_enter func67,ntmps67
 go_wp2_with fail;exact bodyPost_ret (v:=.agg #[D G s,D G q]) (by simp[results,results67,go_sem]) rfl ⟨rfl,((zE _).alloc _).alloc _⟩
theorem Ih(t s q k ct ts tq lp lc lg lv:Int)(b:ByteArray)(A:Option Addr)(n cc:Nat)(w:World) :
  Calls prog 58 #[.agg #[D G t,D G s,D G q,D G k,.string b,D G ct,H A n cc,D G ts,D G tq,D G lp,D G lc,D G lg,D G lv]] w fun e w'=>e=.returned (.agg #[D G t,D G s,D G q])/\ab w w':=by
 go_enter func58,ntmps58
 go_wp2_with fail;exact bodyPost_ret (v:=.agg #[D G t,D G s,D G q]) (by simp[results,results58,go_sem]) rfl ⟨rfl,((zE _).alloc _).alloc _⟩
theorem mG(v:Value)(t:r6)(si qi:Int)(w:World)(ht:aK p w v t) :
  Calls prog 38 #[v,.agg #[D G si,D G qi]] w fun e w'=>(∃x:dF,(tU t.sts ⟨si,qi⟩).getD ⟨⟨0,0⟩,0,⟨0,0,0,0⟩⟩=x/\e=.returned (.tuple #[.agg x.cells.toArray,.bool (tU t.sts ⟨si,qi⟩).isSome]))/\ab w w':=by
 obtain⟨vS,vG,rfl,hS,hG⟩:=ht;obtain⟨AG,nG,cG,rfl,-⟩:=hG.open_;obtain⟨A,n,c,rfl,hnc,hcc,hnn,HL⟩:=hS.open_;have HS:Bx (rA p w (H A n c) t.sts):=⟨hS⟩
 clear hS hG;have HF:Bx (aA w (((w.alloc (.cells #[H A n c,H AG nG cG] 59)).alloc (.cells #[D G si,D G qi] 43)).alloc (.cells #[D G 0,D G 0,D G 0,D G 0,D G 0,D G 0,D G 0] 67)) [(w.heap.size,#[H A n c,H AG nG cG],59),(w.heap.size+1,#[D G si,D G qi],43),(w.heap.size+1+1,#[D G 0,D G 0,D G 0,D G 0,D G 0,D G 0,D G 0],67)]):=⟨(((aA.start w).push _ _ rfl).push _ _ (by simp)).push _ _ (by simp)⟩
 go_enter func38,ntmps38
 go_upto_region 1 with (fail)
 obtain⟨w1,hw1⟩:=nm ((((w.alloc (.cells #[H A n c,H AG nG cG] 59)).alloc (.cells #[D G si,D G qi] 43)).alloc (.cells #[D G 0,D G 0,D G 0,D G 0,D G 0,D G 0,D G 0] 67)):World);rw[<-hw1]at HF;rw[<-hw1];clear hw1;have bS:=(HF.out.at_ 0 rfl).c 0 rfl;go_wp2_with fail;clear bS;go_loopw [11] (fun s6 wr=>∃k:Nat,s6=D G k/\k<=n/\Bx (aA w wr [(w.heap.size,#[H A n c,H AG nG cG],59),(w.heap.size+1,#[D G si,D G qi],43),(w.heap.size+1+1,#[D G 0,D G 0,D G 0,D G 0,D G 0,D G 0,D G 0],67)]/\∀(j:Nat) x,j<k->t.sts[j]?=some x->decide (x.scan=⟨si,qi⟩)=false)) (fun k _=>n-(intOf k).toNat)
 case atStart=>exact⟨0,rfl,by omega,⟨⟨HF.out,fun j x hj=>by omega⟩⟩⟩
 case round =>
  obtain⟨k,rfl,hk,HR⟩:=hrel;have HFr:Bx (aA w wr [(w.heap.size,#[H A n c,H AG nG cG],59),(w.heap.size+1,#[D G si,D G qi],43),(w.heap.size+1+1,#[D G 0,D G 0,D G 0,D G 0,D G 0,D G 0,D G 0],67)]):=⟨HR.out.1⟩
  have HN:Bx (∀(j:Nat) x,j<k->t.sts[j]?=some x->decide (x.scan=⟨si,qi⟩)=false):=⟨HR.out.2⟩
  have b0:=(HFr.out.at_ 0 rfl).c 0 rfl;clear HR HF;by_cases hkn:k<n
  ·obtain⟨b,off,_,_,rfl,-⟩:=HS.out.at_ hkn;obtain⟨cs,⟨⟨xs,xq⟩,xt,⟨xa,xb,xc,xd⟩⟩,-,hc0,⟨hcs,-⟩,HX⟩:=(HS.out.ext (cU.stab p) HFr.out.xt).cell_ hkn;have x0:=hc0 0 (D G xs) (by rw[hcs];rfl);have x1:=hc0 1 (D G xq) (by rw[hcs];rfl);have x2:=hc0 2 (D G xt) (by rw[hcs];rfl);have x3:=hc0 3 (D G xa) (by rw[hcs];rfl);have x4:=hc0 4 (D G xb) (by rw[hcs];rfl);have x5:=hc0 5 (D G xc) (by rw[hcs];rfl);have x6:=hc0 6 (D G xd) (by rw[hcs];rfl);rw[yQ]at x0;have HFx:=bx (HFr.out.ext ((zE wr).alloc (.cells #[D G xs,D G xq,D G xt,D G xa,D G xb,D G xc,D G xd] 67)));obtain⟨i0,i1⟩:=(HFx.out.at_ 1 rfl).p2 rfl;clear hc0 hcs b0;have eL:∀W,(Op.equalIn 10000 43 (.agg #[D G xs,D G xq]) (.agg #[D G si,D G qi])).run prog W=.ok (decide (xs=si/\xq=qi)) W:=fun W=>jW _ _ _ _ W;have gL:=fC;by_cases h1:xs=si/\xq=qi
   ·rw[decide_eq_true h1]at eL;have HFD:Bx (tU t.sts ⟨si,qi⟩=some ⟨⟨xs,xq⟩,xt,⟨xa,xb,xc,xd⟩⟩):=⟨by unfold tU;exact ja HX.out (by rw[h1.1,h1.2];simp) fun j y hj hy=>HN.out j y hj hy⟩
    clear h1;obtain⟨z0,z1,z2,z3,z4,z5,z6⟩:=(HFx.out.at_ 2 rfl).p7 rfl;have f0:=(HFx.out.at_ 2 rfl).froz;have f1:=f0;have f2:=f0;have f3:=f0;have f4:=f0;have f5:=f0;have f6:=f0;go_wp2_with fail;have h9:=(HFx.out.setAll 2 rfl [D G xs,D G xq,D G xt,D G xa,D G xb,D G xc,D G xd] rfl)
    refine bodyPost_ret (v:=.tuple #[.agg #[D G xs,D G xq,D G xt,D G xa,D G xb,D G xc,D G xd],.bool true]) (by simp[results,results38,go_sem,z0,z1,z2,z3,z4,z5,z6]) rfl ⟨⟨⟨⟨xs,xq⟩,xt,⟨xa,xb,xc,xd⟩⟩,by rw[HFD.out];rfl,by rw[HFD.out];rfl⟩,h9.xt⟩
   ·rw[decide_eq_false h1]at eL;have HN1:=zZ h1;clear h1;go_wp2_with fail;go_roundw
    case rel=>exact⟨k+1,by go_num,by omega,⟨⟨HFx.out,fun j y hj hy=>by rcases zU j k with h|h;exact HN.out j y h hy;obtain rfl:j=k:=(by omega);rw[HX.out]at hy;injection hy with hy;subst hy;exact decide_eq_false (fun e=>HN1.out (by injection e with e1 e2;exact⟨e1,e2⟩))⟩⟩⟩
    case measure=>simp[intOf];omega
  ·obtain rfl:k=n:=by omega
   have HFD:Bx (tU t.sts ⟨si,qi⟩=none):=⟨by unfold tU;exact mP fun j y hy=>HN.out j y (by have:=(zY.1 hy).1;have:=HL.out;omega) hy⟩
   obtain⟨z0,z1,z2,z3,z4,z5,z6⟩:=(HFr.out.at_ 2 rfl).p7 rfl;have f0:=(HFr.out.at_ 2 rfl).froz;have f1:=f0;have f2:=f0;have f3:=f0;have f4:=f0;have f5:=f0;have f6:=f0;go_wp2_with fail;have h9:=HFr.out.setAll 2 rfl [D G 0,D G 0,D G 0,D G 0,D G 0,D G 0,D G 0] rfl;refine bodyPost_ret (v:=.tuple #[.agg #[D G 0,D G 0,D G 0,D G 0,D G 0,D G 0,D G 0],.bool false]) (by simp[results,results38,go_sem,z0,z1,z2,z3,z4,z5,z6]) rfl ⟨⟨⟨⟨0,0⟩,0,⟨0,0,0,0⟩⟩,by rw[HFD.out];rfl,by rw[HFD.out];rfl⟩,h9.xt⟩
end Go.Proofs.YtkaajgoeahahpaaGreatDoor

