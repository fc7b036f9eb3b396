import Derived.Laws.Tables
import Derived.Lib.SliceRun
import Derived.Laws.CopyRow
import Derived.Shelf.Strings.BuilderK
import Derived.Shelf.Strings.Count
import Derived.Shelf.Strings.Repeat
import Derived.Test.YtkaajgoeahahpaaGreatDoorProg
import Derived.Lib.BufferRead
import Derived.Deep.OwnRows
import Derived.Laws.EntriesVeiled
import Derived.Laws.CopyOwn
import Derived.StillTailTactics
import Derived.BigRegion
import Derived.Deep.RegionLaw
import Derived.Test.YtkaajgoeahahpaaGreatDoorK3
import Derived.Test.YtkaajgoeahahpaaGreatDoorK4
import Derived.Test.YtkaajgoeahahpaaGreatDoorK43
import Derived.Test.YtkaajgoeahahpaaGreatDoorInlW
import Derived.Test.YtkaajgoeahahpaaGreatDoorK23
import Derived.Deep.CutBlock
import Derived.Test.YtkaajgoeahahpaaGreatDoorRowV
import Derived.Test.YtkaajgoeahahpaaGreatDoorAwkX
import Derived.Test.YtkaajgoeahahpaaGreatDoorSitU
import Derived.Test.YtkaajgoeahahpaaGreatDoorScC
import Derived.Test.YtkaajgoeahahpaaGreatDoorK59
set_option linter.all false
set_option maxRecDepth 100000
set_option maxHeartbeats 0
namespace Go.Proofs.YtkaajgoeahahpaaGreatDoor
open Go.Value renaming int→B,slice→D
open Go.IntKind renaming i64→C
open Go.RowKit _root_.Go.Proofs.Tryz
theorem Da(a b e c1 c2 c3 c4 a' b' e' d1 d2 d3 d4:Int)(w:World):(Op.equalIn 10000 67 (.agg #[B C a,B C b,B C e,B C c1,B C c2,B C c3,B C c4]) (.agg #[B C a',B C b',B C e',B C d1,B C d2,B C d3,B C d4])).run prog w=.ok (decide (a=a'/\b=b'/\e=e'/\c1=d1/\c2=d2/\c3=d3/\c4=d4)) w:=by
 have u3:=underlying3;have a3:=isAgg3;have z3:=sizeOf3;have aI:=isAgg43;have zI:=sizeOf43;have aL:=isAgg45;have zL:=sizeOf45;have hS:prog.underlying 67=some (.struct (prog.fieldsOf 67)):=by kernel_rfl
 have hp:prog.stoodInHeld 67=false:=by kernel_rfl
 rw[show (10000:Nat)=9999+1 from rfl,run_equalIn_agg w 9999 67 _ _ hS hp];simp only[Program.fieldsOf,underlying67];go_simp;split;case isFalse h=>simp[h]
 case isTrue h0 =>
  split;case isFalse h=>simp[h]
  case isTrue h1 =>
   split;case isFalse h=>simp[h]
   case isTrue h2 =>
    split;case isFalse h=>simp[h]
    case isTrue h3 =>
     split;case isFalse h=>simp[h]
     case isTrue h4 =>
      split;case isFalse h=>simp[h]
      case isTrue h5 =>
       split;case isFalse h=>simp[h]
       case isTrue h6 =>simp[h0,h1,h2,h3,h4,h5,h6]
theorem Aj:prog.eqGuardType prog.depth 67=false:=by kernel_rfl
end Go.Proofs.YtkaajgoeahahpaaGreatDoor
namespace Go.Proofs.YtkaajgoeahahpaaGreatDoor
open Go.Value renaming int→B
open Go.IntKind renaming i64→C
open Go.RowKit _root_.Go.Proofs.Tryz
theorem dN(t s q k ct ts tq lp lc lg lv:Int)(b:ByteArray)(A:Option Addr)(n cc:Nat)(w:World) :
  Calls prog 30 #[.agg #[B C t,B C s,B C q,B C k,.string b,B C ct,.slice A n cc,B C ts,B C tq,B C lp,B C lc,B C lg,B C lv]] w fun e w'=>e=.returned (.agg #[B C s,B C q])/\ab w w':=by
 go_enter func30,ntmps30
 go_wp2_with fail;exact bodyPost_ret (v:=.agg #[B C s,B C q]) (by simp[results,results30,go_sem]) rfl ⟨rfl,((zE _).alloc _).alloc _⟩
end Go.Proofs.YtkaajgoeahahpaaGreatDoor


namespace Go.Proofs.YtkaajgoeahahpaaGreatDoor
open Go.Value renaming int→A
open Go.IntKind renaming i64→B
open Go.RowKit _root_.Go.Proofs.Tryz
theorem bM{o:Oper}{ev:Operand->Value}{x y:Operand}{w:World}{g:Nat}{cs:Array Value}{a0 a1 a2 a3 a5 a9 b0 b1 b2 b3 b4:Int}{a4:List UInt8}{a6:Option Addr}{a7 a8:Nat}(ho:o.op=.store 47 x y)(hx:ev x=.pointer (some ⟨g,0,none⟩))(hy:ev y=.agg #[A B a0,A B a1,A B a2,A B a3,.string (ba a4),A B a5,.slice a6 a7 a8,A B a9,A B b0,A B b1,A B b2,A B b3,A B b4])(hb:Bk w g cs 47)(hs:cs.size=13) :
  (execOp ev o).run prog w=.ok .skip (be w g 0 [A B a0,A B a1,A B a2,A B a3,.string (ba a4),A B a5,.slice a6 a7 a8,A B a9,A B b0,A B b1,A B b2,A B b3,A B b4]):=by
 have j0:=hb.cell (i:=0) (xG (by omega));have j1:=hb.cell (i:=1) (xG (by omega));have j2:=hb.cell (i:=2) (xG (by omega));have j3:=hb.cell (i:=3) (xG (by omega));have j4:=hb.cell (i:=4) (xG (by omega));have j5:=hb.cell (i:=5) (xG (by omega));have j6:=hb.cell (i:=6) (xG (by omega));have j7:=hb.cell (i:=7) (xG (by omega));have j8:=hb.cell (i:=8) (xG (by omega));have j9:=hb.cell (i:=9) (xG (by omega));have k0:=hb.cell (i:=10) (xG (by omega));have k1:=hb.cell (i:=11) (xG (by omega));have k2:=hb.cell (i:=12) (xG (by omega));have z0:=(hb).froz;have z1:=z0;have z2:=z0;have z3:=z0;have z4:=z0;have z5:=z0;have z6:=z0;have z7:=z0;have z8:=z0;have z9:=z0;have z10:=z0;have z11:=z0;have z12:=z0;unfold execOp;rw[ho];simp only[hx,hy];go_simp;rfl
theorem aD{P:Program}{ops:Array Oper}{o:Oper}{a:Act}{w w':World}{K:Act->World->Prop}{Q:Exit->Act->World->Prop}{E:Prop}(hgd:o.guard=none)(h:(execOp a.eval o).run P w=.ok .skip w')(hk:K (a.put o.dst undef) w') :
  if Region.wanted o (yielded ops a.tmps)=true then Oper.wp P o a w K Q else E:=by
 have hw:Region.wanted o (yielded ops a.tmps)=true:=by simp[Region.wanted,hgd]
 rw[if_pos hw];unfold Oper.wp;rw[h];exact hk
end Go.Proofs.YtkaajgoeahahpaaGreatDoor


namespace Go.Proofs.YtkaajgoeahahpaaGreatDoor
open Go.Value renaming int→A
open Go.IntKind renaming i64→B
open Go.RowKit _root_.Go.Proofs.Tryz
theorem so(xc xg xt xs xq yc yg yt ys yq:Int)(xch ych:List Int)(xA yA:Option Addr)(xn xcc yn ycc:Nat)(w:World){p q:Nat}(ha:ak p w (.slice xA xn xcc) xch)(hb:ak q w (.slice yA yn ycc) ych) :
  Calls prog 41 #[.agg #[A B xc,A B xg,A B xt,.slice xA xn xcc,A B xs,A B xq],.agg #[A B yc,A B yg,A B yt,.slice yA yn ycc,A B ys,A B yq]] w fun e w'=>e=.returned (.bool (decide ((⟨xc,xg,xt,xch,⟨xs,xq⟩⟩:Pg)=⟨yc,yg,yt,ych,⟨ys,yq⟩⟩)))/\ab w w':=by
 have e2:=fun W=>jW xs xq ys yq W;have g2:=fC;have HA:Bx (ak p w (.slice xA xn xcc) xch/\ak q w (.slice yA yn ycc) ych):=⟨⟨ha,hb⟩⟩
 clear ha hb;go_enter func41,ntmps41
 go_wp2_with (go_at_call 40;refine (rP _ _ xch ych _ (HA.out.1.ext (((zE _).alloc _).alloc _)) (HA.out.2.ext (((zE _).alloc _).alloc _))).mono ?_;rintro e w1 ⟨rfl,hx1⟩;have HE:=zZ ((((zE w).alloc _).alloc _).trans hx1);have q04:w1.cell? ⟨w.heap.size,4,none⟩=some (A B xs):=hx1.cell (by simp[go_sem,yI,yH]);have q05:w1.cell? ⟨w.heap.size,5,none⟩=some (A B xq):=hx1.cell (by simp[go_sem,yI,yH]);have q14:w1.cell? ⟨w.heap.size+1,4,none⟩=some (A B ys):=hx1.cell (by simp[go_sem,yI,yH]);have q15:w1.cell? ⟨w.heap.size+1,5,none⟩=some (A B yq):=hx1.cell (by simp[go_sem,yI,yH]);have HAll:=hx1;clear hx1);all_goals (go_ret;refine⟨aa ?_,?_⟩)
 all_goals (first|exact HE.out|exact ((zE _).alloc _).alloc _|(rw[yE];simp only[decide_eq_true_eq,Pg.eq_iff,gT.eq_iff];simp_all)|skip)
end Go.Proofs.YtkaajgoeahahpaaGreatDoor


namespace Go.Proofs.YtkaajgoeahahpaaGreatDoor
open Go.Value renaming int→A,slice→C
open Go.IntKind renaming i64→B
open Go.RowKit _root_.Go.Proofs.Tryz
theorem qY{α:Type}{l l':List α}{n:Nat}(h1:l.length=n)(h2:l'.length=n)(h:∀j,j<n->l[j]?=l'[j]?):l=l':=by
 refine xW fun j=>?_;rcases zU j n with hj|hj
 ·exact h j hj
 ·rw[zC (by omega),zC (by omega)]
theorem jZ(va vb:Value)(a b:r6)(w:World){p q:Nat}(ha:aK p w va a)(hb:aK q w vb b) :
  Calls prog 34 #[va,vb] w fun e w'=>(∃r:Bool,e=.returned (.bool r)/\(r=true↔a.sts=b.sts/\a.pgs=b.pgs))/\ab w w':=by
 obtain⟨vS,vG,rfl,hS,hG⟩:=ha;obtain⟨uS,uG,rfl,gS,gG⟩:=hb;obtain⟨AS,n,cS,rfl,-,-,hn6,HLS⟩:=hS.open_;obtain⟨AG,m,cG,rfl,-,-,hm6,HLG⟩:=hG.open_;obtain⟨BS,n',dS,rfl,-,-,-,KLS⟩:=gS.open_;obtain⟨BG,m',dG,rfl,-,-,-,KLG⟩:=gG.open_;have HS:Bx (rA p w (C AS n cS) a.sts/\rA q w (C BS n' dS) b.sts):=⟨⟨hS,gS⟩⟩
 have HG:Bx (Ce p w (C AG m cG) a.pgs/\Ce q w (C BG m' dG) b.pgs):=⟨⟨hG,gG⟩⟩
 clear hS hG gS gG;go_enter func34,ntmps34
 by_cases h1:n=n';case neg =>
  have h1b:((n:Int)==(n':Int))=false:=by simp;omega
  have HN:Bx (¬(a.sts=b.sts/\a.pgs=b.pgs)):=⟨fun e=>h1 (by rw[<-HLS.out,<-KLS.out,e.1])⟩
  replace h1:=zZ h1;go_wp2_with fail;go_ret
  exact⟨⟨false,rfl,by simp[HN.out]⟩,((zE _).alloc _).alloc _⟩
 subst h1;by_cases h2:m=m';case neg =>
  have h2b:((m:Int)==(m':Int))=false:=by simp;omega
  have HN:Bx (¬(a.sts=b.sts/\a.pgs=b.pgs)):=⟨fun e=>h2 (by rw[<-HLG.out,<-KLG.out,e.2])⟩
  replace h2:=zZ h2;go_wp2_with fail;go_ret
  exact⟨⟨false,rfl,by simp[HN.out]⟩,((zE _).alloc _).alloc _⟩
 subst h2;have HF:Bx (aA w ((w.alloc (.cells #[C AS n cS,C AG m cG] 59)).alloc (.cells #[C BS n dS,C BG m dG] 59)) [(w.heap.size,#[C AS n cS,C AG m cG],59),(w.heap.size+1,#[C BS n dS,C BG m dG],59)]):=⟨((aA.start w).push _ _ rfl).push _ _ (by simp)⟩
 go_upto_region 1 with (fail)
 obtain⟨w1,hw1⟩:=nm (((w.alloc (.cells #[C AS n cS,C AG m cG] 59)).alloc (.cells #[C BS n dS,C BG m dG] 59)):World);rw[<-hw1]at HF;rw[<-hw1];clear hw1;obtain⟨b0,b1⟩:=(HF.out.at_ 0 rfl).p2 rfl;obtain⟨c0,c1⟩:=(HF.out.at_ 1 rfl).p2 rfl;go_wp2_with fail;go_loopw [5] (fun s5 wr=>∃k:Nat,s5=A B k/\k<=n/\Bx (aA w wr [(w.heap.size,#[C AS n cS,C AG m cG],59),(w.heap.size+1,#[C BS n dS,C BG m dG],59)]/\∀j,j<k->a.sts[j]?=b.sts[j]?)) (fun k _=>n-(intOf k).toNat)
 case atStart=>exact⟨0,rfl,by omega,⟨⟨HF.out,fun j hj=>by omega⟩⟩⟩
 case round =>
  obtain⟨k,rfl,hk,HR⟩:=hrel;have HFr:Bx (aA w wr [(w.heap.size,#[C AS n cS,C AG m cG],59),(w.heap.size+1,#[C BS n dS,C BG m dG],59)]):=⟨HR.out.1⟩
  have HA:Bx (∀j,j<k->a.sts[j]?=b.sts[j]?):=⟨HR.out.2⟩
  clear HR HF b0 b1 c0 c1;obtain⟨b0,b1⟩:=(HFr.out.at_ 0 rfl).p2 rfl;obtain⟨c0,c1⟩:=(HFr.out.at_ 1 rfl).p2 rfl;by_cases hkn:k<n
  ·obtain⟨b1k,o1,_,_,rfl,-⟩:=HS.out.1.at_ hkn;obtain⟨b2k,o2,_,_,rfl,-⟩:=HS.out.2.at_ hkn;obtain⟨cs,⟨⟨xs,xq⟩,xt,⟨xa,xb,xc,xd⟩⟩,-,hc0,⟨hcs,-⟩,HX⟩:=(HS.out.1.ext (cU.stab p) HFr.out.drew.xt).cell_ hkn;obtain⟨es,⟨⟨ys,yq⟩,yt,⟨ya,yb,yc,yd⟩⟩,-,he0,⟨hes,-⟩,HY⟩:=(HS.out.2.ext (cU.stab q) HFr.out.drew.xt).cell_ hkn;have x0:=hc0 0 (A B xs) (by rw[hcs];rfl);have x1:=hc0 1 (A B xq) (by rw[hcs];rfl);have x2:=hc0 2 (A B xt) (by rw[hcs];rfl);have x3:=hc0 3 (A B xa) (by rw[hcs];rfl);have x4:=hc0 4 (A B xb) (by rw[hcs];rfl);have x5:=hc0 5 (A B xc) (by rw[hcs];rfl);have x6:=hc0 6 (A B xd) (by rw[hcs];rfl);have y0:=he0 0 (A B ys) (by rw[hes];rfl);have y1:=he0 1 (A B yq) (by rw[hes];rfl);have y2:=he0 2 (A B yt) (by rw[hes];rfl);have y3:=he0 3 (A B ya) (by rw[hes];rfl);have y4:=he0 4 (A B yb) (by rw[hes];rfl);have y5:=he0 5 (A B yc) (by rw[hes];rfl);have y6:=he0 6 (A B yd) (by rw[hes];rfl);rw[yQ]at x0 y0;have kS:wr.drew.cell? ⟨w.heap.size,0,none⟩=some (C (some ⟨b1k,o1,none⟩) n cS)/\wr.drew.cell? ⟨w.heap.size+1,0,none⟩=some (C (some ⟨b2k,o2,none⟩) n dS)/\wr.drew.cell? ⟨b1k,o1+k*7,none⟩=some (A B xs)/\wr.drew.cell? ⟨b1k,o1+k*7+1,none⟩=some (A B xq)/\wr.drew.cell? ⟨b1k,o1+k*7+2,none⟩=some (A B xt)/\wr.drew.cell? ⟨b1k,o1+k*7+3,none⟩=some (A B xa)/\wr.drew.cell? ⟨b1k,o1+k*7+4,none⟩=some (A B xb)/\wr.drew.cell? ⟨b1k,o1+k*7+5,none⟩=some (A B xc)/\wr.drew.cell? ⟨b1k,o1+k*7+6,none⟩=some (A B xd)/\wr.drew.cell? ⟨b2k,o2+k*7,none⟩=some (A B ys)/\wr.drew.cell? ⟨b2k,o2+k*7+1,none⟩=some (A B yq)/\wr.drew.cell? ⟨b2k,o2+k*7+2,none⟩=some (A B yt)/\wr.drew.cell? ⟨b2k,o2+k*7+3,none⟩=some (A B ya)/\wr.drew.cell? ⟨b2k,o2+k*7+4,none⟩=some (A B yb)/\wr.drew.cell? ⟨b2k,o2+k*7+5,none⟩=some (A B yc)/\wr.drew.cell? ⟨b2k,o2+k*7+6,none⟩=some (A B yd):=⟨(HFr.out.drew.at_ 0 rfl).c 0 rfl,(HFr.out.drew.at_ 1 rfl).c 0 rfl,x0,x1,x2,x3,x4,x5,x6,y0,y1,y2,y3,y4,y5,y6⟩
   clear hc0 hcs he0 hes x0 x1 x2 x3 x4 x5 x6 y0 y1 y2 y3 y4 y5 y6;go_upto_region 6 with (fail)
   clear b0 b1 c0 c1;refine zR 99 (fun w'=>w'.cell? ⟨w.heap.size,0,none⟩=some (C (some ⟨b1k,o1,none⟩) n cS)/\w'.cell? ⟨w.heap.size+1,0,none⟩=some (C (some ⟨b2k,o2,none⟩) n dS)/\w'.cell? ⟨b1k,o1+k*7,none⟩=some (A B xs)/\w'.cell? ⟨b1k,o1+k*7+1,none⟩=some (A B xq)/\w'.cell? ⟨b1k,o1+k*7+2,none⟩=some (A B xt)/\w'.cell? ⟨b1k,o1+k*7+3,none⟩=some (A B xa)/\w'.cell? ⟨b1k,o1+k*7+4,none⟩=some (A B xb)/\w'.cell? ⟨b1k,o1+k*7+5,none⟩=some (A B xc)/\w'.cell? ⟨b1k,o1+k*7+6,none⟩=some (A B xd)/\w'.cell? ⟨b2k,o2+k*7,none⟩=some (A B ys)/\w'.cell? ⟨b2k,o2+k*7+1,none⟩=some (A B yq)/\w'.cell? ⟨b2k,o2+k*7+2,none⟩=some (A B yt)/\w'.cell? ⟨b2k,o2+k*7+3,none⟩=some (A B ya)/\w'.cell? ⟨b2k,o2+k*7+4,none⟩=some (A B yb)/\w'.cell? ⟨b2k,o2+k*7+5,none⟩=some (A B yc)/\w'.cell? ⟨b2k,o2+k*7+6,none⟩=some (A B yd)) ?_;have eL:=fun W=>Da xs xq xt xa xb xc xd ys yq yt ya yb yc yd W;have gL:=Aj;by_cases h1:xs=ys/\xq=yq/\xt=yt/\xa=ya/\xb=yb/\xc=yc/\xd=yd
   ·rw[decide_eq_true h1]at eL;have HEQ:Bx (a.sts[k]?=b.sts[k]?):=⟨by obtain⟨e1,e2,e3,e4,e5,e6,e7⟩:=h1;rw[HX.out,HY.out,e1,e2,e3,e4,e5,e6,e7]⟩
    clear h1;refine zS 11 [(0,30),(1,31),(2,32),(3,33),(4,34),(5,35),(6,36),(7,37),(8,38),(9,39),(10,40)] kS ?_;iterate 11 refine zT ?_
    refine zN (zD ?_);clear kS eL gL;go_wp2_with fail;go_roundw
    case rel=>exact⟨k+1,by go_num,by omega,⟨⟨HFr.out.drew,fun j hj=>by rcases zU j k with h|h;exact HA.out j h;obtain rfl:j=k:=(by omega);exact HEQ.out⟩⟩⟩
    case measure=>simp[intOf];omega
   ·rw[decide_eq_false h1]at eL;have HN:Bx (¬(a.sts=b.sts/\a.pgs=b.pgs)):=⟨fun e=>h1 (by have h:=HX.out;rw[e.1,HY.out]at h;injection h with h;injection h with e1 e2 e3;injection e1 with e4 e5;injection e3 with e6 e7 e8 e9;exact⟨e4.symm,e5.symm,e2.symm,e6.symm,e7.symm,e8.symm,e9.symm⟩)⟩
    clear h1;refine zS 11 [(0,30),(1,31),(2,32),(3,33),(4,34),(5,35),(6,36),(7,37),(8,38),(9,39),(10,40)] kS ?_;iterate 11 refine zT ?_
    refine zN (zD ?_);clear kS eL gL;go_wp2_with fail;go_ret
    exact⟨⟨false,rfl,by simp[HN.out]⟩,HFr.out.drew.xt⟩
  ·obtain rfl:k=n:=by omega
   have HSE:Bx (a.sts=b.sts):=⟨qY HLS.out KLS.out HA.out⟩
   clear HA;go_wp2_with fail;obtain⟨wo,rfl⟩:=nm (wr:World);go_loopw [6] (fun s6 wx=>∃j:Nat,s6=A B j/\j<=m/\Bx (aA w wx [(w.heap.size,#[C AS k cS,C AG m cG],59),(w.heap.size+1,#[C BS k dS,C BG m dG],59)]/\∀i,i<j->a.pgs[i]?=b.pgs[i]?)) (fun j _=>m-(intOf j).toNat)
   case atStart=>exact⟨0,rfl,by omega,⟨⟨HFr.out,fun i hi=>by omega⟩⟩⟩
   case round =>
    obtain⟨j,rfl,hj,HR⟩:=hrel;have HF2:Bx (aA w wr [(w.heap.size,#[C AS k cS,C AG m cG],59),(w.heap.size+1,#[C BS k dS,C BG m dG],59)]):=⟨HR.out.1⟩
    have HA:Bx (∀i,i<j->a.pgs[i]?=b.pgs[i]?):=⟨HR.out.2⟩
    clear HR HFr b0 b1 c0 c1;obtain⟨b0,b1⟩:=(HF2.out.at_ 0 rfl).p2 rfl;obtain⟨c0,c1⟩:=(HF2.out.at_ 1 rfl).p2 rfl;by_cases hjm:j<m
    ·obtain⟨b1k,o1,_,_,rfl,-⟩:=HG.out.1.at_ hjm;obtain⟨b2k,o2,_,_,rfl,-⟩:=HG.out.2.at_ hjm;obtain⟨cs,⟨xc,xg,xt,xch,⟨xs,xq⟩⟩,-,hc0,⟨ux,hcs,hix,-⟩,HX⟩:=(HG.out.1.ext (lO.stab p) HF2.out.drew.xt).cell_ hjm;obtain⟨es,⟨yc,yg,yt,ych,⟨ys,yq⟩⟩,-,he0,⟨uy,hes,hiy,-⟩,HY⟩:=(HG.out.2.ext (lO.stab q) HF2.out.drew.xt).cell_ hjm;obtain⟨xA,xn,xcc,rfl,-⟩:=hix.open_;obtain⟨yA,yn,ycc,rfl,-⟩:=hiy.open_;have x0:=hc0 0 (A B xc) (by rw[hcs];rfl);have x1:=hc0 1 (A B xg) (by rw[hcs];rfl);have x2:=hc0 2 (A B xt) (by rw[hcs];rfl);have x3:=hc0 3 (C xA xn xcc) (by rw[hcs];rfl);have x4:=hc0 4 (A B xs) (by rw[hcs];rfl);have x5:=hc0 5 (A B xq) (by rw[hcs];rfl);have y0:=he0 0 (A B yc) (by rw[hes];rfl);have y1:=he0 1 (A B yg) (by rw[hes];rfl);have y2:=he0 2 (A B yt) (by rw[hes];rfl);have y3:=he0 3 (C yA yn ycc) (by rw[hes];rfl);have y4:=he0 4 (A B ys) (by rw[hes];rfl);have y5:=he0 5 (A B yq) (by rw[hes];rfl);rw[yQ]at x0 y0;have kS:wr.drew.cell? ⟨w.heap.size,1,none⟩=some (C (some ⟨b1k,o1,none⟩) m cG)/\wr.drew.cell? ⟨w.heap.size+1,1,none⟩=some (C (some ⟨b2k,o2,none⟩) m dG)/\wr.drew.cell? ⟨b1k,o1+j*6,none⟩=some (A B xc)/\wr.drew.cell? ⟨b1k,o1+j*6+1,none⟩=some (A B xg)/\wr.drew.cell? ⟨b1k,o1+j*6+2,none⟩=some (A B xt)/\wr.drew.cell? ⟨b1k,o1+j*6+3,none⟩=some (C xA xn xcc)/\wr.drew.cell? ⟨b1k,o1+j*6+4,none⟩=some (A B xs)/\wr.drew.cell? ⟨b1k,o1+j*6+5,none⟩=some (A B xq)/\wr.drew.cell? ⟨b2k,o2+j*6,none⟩=some (A B yc)/\wr.drew.cell? ⟨b2k,o2+j*6+1,none⟩=some (A B yg)/\wr.drew.cell? ⟨b2k,o2+j*6+2,none⟩=some (A B yt)/\wr.drew.cell? ⟨b2k,o2+j*6+3,none⟩=some (C yA yn ycc)/\wr.drew.cell? ⟨b2k,o2+j*6+4,none⟩=some (A B ys)/\wr.drew.cell? ⟨b2k,o2+j*6+5,none⟩=some (A B yq):=⟨(HF2.out.drew.at_ 0 rfl).c 1 rfl,(HF2.out.drew.at_ 1 rfl).c 1 rfl,x0,x1,x2,x3,x4,x5,y0,y1,y2,y3,y4,y5⟩
     have HI:Bx (ak p wr.drew (C xA xn xcc) xch/\ak q wr.drew (C yA yn ycc) ych):=⟨⟨hix,hiy⟩⟩
     clear hix hiy hc0 hcs he0 hes x0 x1 x2 x3 x4 x5 y0 y1 y2 y3 y4 y5;go_upto_region 11 with (fail)
     clear b0 b1 c0 c1;refine zR 99 (fun w'=>w'.cell? ⟨w.heap.size,1,none⟩=some (C (some ⟨b1k,o1,none⟩) m cG)/\w'.cell? ⟨w.heap.size+1,1,none⟩=some (C (some ⟨b2k,o2,none⟩) m dG)/\w'.cell? ⟨b1k,o1+j*6,none⟩=some (A B xc)/\w'.cell? ⟨b1k,o1+j*6+1,none⟩=some (A B xg)/\w'.cell? ⟨b1k,o1+j*6+2,none⟩=some (A B xt)/\w'.cell? ⟨b1k,o1+j*6+3,none⟩=some (C xA xn xcc)/\w'.cell? ⟨b1k,o1+j*6+4,none⟩=some (A B xs)/\w'.cell? ⟨b1k,o1+j*6+5,none⟩=some (A B xq)/\w'.cell? ⟨b2k,o2+j*6,none⟩=some (A B yc)/\w'.cell? ⟨b2k,o2+j*6+1,none⟩=some (A B yg)/\w'.cell? ⟨b2k,o2+j*6+2,none⟩=some (A B yt)/\w'.cell? ⟨b2k,o2+j*6+3,none⟩=some (C yA yn ycc)/\w'.cell? ⟨b2k,o2+j*6+4,none⟩=some (A B ys)/\w'.cell? ⟨b2k,o2+j*6+5,none⟩=some (A B yq)) ?_;refine zS 10 [(0,48),(1,49),(2,50),(3,51),(4,52),(5,53),(6,54),(7,55),(8,56),(9,57)] kS ?_;iterate 10 refine zT ?_
     refine zN (zO 10 (fun K hK=>?_));go_simp;refine (so xc xg xt xs xq yc yg yt ys yq xch ych xA yA xn xcc yn ycc _ HI.out.1 HI.out.2).mono ?_;rintro e w3 ⟨rfl,hx3⟩;have HF3:Bx (aA w w3 [(w.heap.size,#[C AS k cS,C (some ⟨b1k,o1,none⟩) m cG],59),(w.heap.size+1,#[C BS k dS,C (some ⟨b2k,o2,none⟩) m dG],59)]):=⟨HF2.out.drew.ext hx3⟩
     have kS2:w3.cell? ⟨w.heap.size,1,none⟩=some (C (some ⟨b1k,o1,none⟩) m cG)/\w3.cell? ⟨w.heap.size+1,1,none⟩=some (C (some ⟨b2k,o2,none⟩) m dG)/\w3.cell? ⟨b1k,o1+j*6,none⟩=some (A B xc)/\w3.cell? ⟨b1k,o1+j*6+1,none⟩=some (A B xg)/\w3.cell? ⟨b1k,o1+j*6+2,none⟩=some (A B xt)/\w3.cell? ⟨b1k,o1+j*6+3,none⟩=some (C xA xn xcc)/\w3.cell? ⟨b1k,o1+j*6+4,none⟩=some (A B xs)/\w3.cell? ⟨b1k,o1+j*6+5,none⟩=some (A B xq)/\w3.cell? ⟨b2k,o2+j*6,none⟩=some (A B yc)/\w3.cell? ⟨b2k,o2+j*6+1,none⟩=some (A B yg)/\w3.cell? ⟨b2k,o2+j*6+2,none⟩=some (A B yt)/\w3.cell? ⟨b2k,o2+j*6+3,none⟩=some (C yA yn ycc)/\w3.cell? ⟨b2k,o2+j*6+4,none⟩=some (A B ys)/\w3.cell? ⟨b2k,o2+j*6+5,none⟩=some (A B yq):=⟨hx3.cell kS.1,hx3.cell kS.2.1,hx3.cell kS.2.2.1,hx3.cell kS.2.2.2.1,hx3.cell kS.2.2.2.2.1,hx3.cell kS.2.2.2.2.2.1,hx3.cell kS.2.2.2.2.2.2.1,hx3.cell kS.2.2.2.2.2.2.2.1,hx3.cell kS.2.2.2.2.2.2.2.2.1,hx3.cell kS.2.2.2.2.2.2.2.2.2.1,hx3.cell kS.2.2.2.2.2.2.2.2.2.2.1,hx3.cell kS.2.2.2.2.2.2.2.2.2.2.2.1,hx3.cell kS.2.2.2.2.2.2.2.2.2.2.2.2.1,hx3.cell kS.2.2.2.2.2.2.2.2.2.2.2.2.2⟩
     clear hx3 kS;cases h1:decide ((⟨xc,xg,xt,xch,⟨xs,xq⟩⟩:Pg)=⟨yc,yg,yt,ych,⟨ys,yq⟩⟩) with
     |true =>
      have HEQ:Bx (a.pgs[j]?=b.pgs[j]?):=⟨by rw[HX.out,HY.out,of_decide_eq_true h1]⟩
      replace h1:=zZ h1;refine hK.out _ _ (fun _=>(kS2)) ?_;clear hK K;try simp only[kA]
      refine zS 1 [(11,59)] kS2 ?_;refine zT ?_;refine zN (zD ?_);clear kS2;go_wp2_with fail;go_roundw
      case rel=>exact⟨j+1,by go_num,by omega,⟨⟨HF3.out,fun i hi=>by rcases zU i j with h|h;exact HA.out i h;obtain rfl:i=j:=(by omega);exact HEQ.out⟩⟩⟩
      case measure=>simp[intOf];omega
     |false =>
      have HN:Bx (¬(a.sts=b.sts/\a.pgs=b.pgs)):=⟨fun e=>of_decide_eq_false h1 (by have h:=HX.out;rw[e.2,HY.out]at h;injection h with h;exact h.symm)⟩
      replace h1:=zZ h1;refine hK.out _ _ (fun _=>(kS2)) ?_;clear hK K;try simp only[kA]
      refine zS 1 [(11,59)] kS2 ?_;refine zT ?_;refine zN (zD ?_);clear kS2;go_wp2_with fail;go_ret
      exact⟨⟨false,rfl,by simp[HN.out]⟩,HF3.out.xt⟩
    ·obtain rfl:j=m:=by omega
     have HGE:Bx (a.pgs=b.pgs):=⟨qY HLG.out KLG.out HA.out⟩
     go_wp2_with fail;go_ret
     exact⟨⟨true,rfl,by simp[HSE.out,HGE.out]⟩,HF2.out.xt⟩
end Go.Proofs.YtkaajgoeahahpaaGreatDoor
namespace Go.Proofs.YtkaajgoeahahpaaGreatDoor
open Go.Value renaming int→B,slice→D
open Go.IntKind renaming i64→C
open Go.RowKit _root_.Go.Proofs.Tryz
theorem Mn{P Q:Nat->Nat->Array Value->Nat->Nat->World->Prop}{G:Prop}(h:Bx (∀a b c d e f,Bx (Q a b c d e f)->P a b c d e f)->G)(r:∀a b c d e f,Bx (Q a b c d e f)->P a b c d e f):G:=h ⟨r⟩
theorem Mo{P Q:Nat->World->Prop}{G:Prop}(h:Bx (∀a b,Bx (Q a b)->P a b)->G)(r:∀a b,Bx (Q a b)->P a b):G:=h ⟨r⟩
set_option maxRecDepth 100000 in
set_option maxHeartbeats 16000000 in
theorem Mh(v0:Value)(l0:List Int)(a1:Int)(w:World)(h0:ak w.heap.size w v0 l0)(h1:aU a1)(hT:cK w) :
  Calls prog 13 #[v0,B C a1] w fun e w'=>e=.returned (.bool true)/\ab w w':=by
 have HA1:=zZ h1;clear h1;have H0:=zZ h0;have HB:=zZ hT;clear h0 hT;go_enter func13,ntmps13
 go_wp2_with fail;refine (ib _ l0 _ H0.out).mono ?_;rintro e w1 ⟨rfl,HT1,HE1⟩;have HE:=zZ HE1;have HF1:Bx (LF w.heap.size w1 w1 []):=⟨LF.start HT1 (HB.out.ext HE1) HB.out.lt⟩
 clear HT1 HE1;go_wp2_with fail;refine (dp _ 0 _ HF1.out.fr.tp (by omega) (by omega)).mono ?_;rintro e w2 ⟨v2,rfl,⟨s,hsv,hwf,hok⟩,HT2,HX2⟩;have hs2:=hsv.isSit hwf HF1.out.fr.hp;have HWF:=zZ hwf;obtain⟨AP,nP,cP,AB,nB,cB,AX,nX,cX,rfl⟩:=hs2.op;have HOK:=zZ (hok rfl);obtain⟨gS,hgS⟩:∃z,z=w2.heap.size:=⟨_,rfl⟩
 obtain⟨w3,hw3⟩:∃z:World,z=(w2.alloc (.cells #[B C s.num,D AP nP cP,D AB nB cB,D AX nX cX] 27)):=⟨_,rfl⟩
 have HF3:Bx (LF w.heap.size w1 w3 [(gS,#[B C s.num,D AP nP cP,D AB nB cB,D AX nX cX],27)]):=⟨by rw[hw3];exact (HF1.out.step HX2 HT2).push _ _ hgS.symm⟩
 have HS3:Bx (aR w.heap.size w3 (.agg #[B C s.num,D AP nP cP,D AB nB cB,D AX nX cX]) s):=⟨by rw[hw3];exact hs2.ext ((zE _).alloc _)⟩
 clear hs2 hsv hwf hok;go_upto_region 3 with (fail)
 rw[<-hw3,<-hgS];clear hw3 hgS HT2 HX2 HF1;have z0:=(HF3.out.at_ 0 rfl).cell (i:=0) rfl;have z1:=(HF3.out.at_ 0 rfl).cell (i:=1) rfl;have z2:=(HF3.out.at_ 0 rfl).cell (i:=2) rfl;have z3:=(HF3.out.at_ 0 rfl).cell (i:=3) rfl;go_wp2_with fail;refine (dP _ _ s 10 _ HF3.out.fr.tp HS3.out HWF.out (by omega)).mono ?_;rintro e w4 ⟨v4,rfl,⟨ys,hrow,hyl⟩,HT4,HX4⟩;have hcs:=hrow.isCs HF3.out.lt;have hyl2:(ys.map Prod.fst).length<=24:=by rw[zJ];omega
 have hst:∀c∈ys.map Prod.fst,JF c.st:=fun c hc=>by obtain⟨y,hy,rfl⟩:=zF.1 hc;exact (hrow.el y hy).2.st
 obtain⟨l,hl⟩:∃z,z=ys.map Prod.fst:=⟨_,rfl⟩
 rw[<-hl]at hcs hyl2 hst;have HSP:=zZ hst;clear hst;obtain⟨AC,cC,rfl⟩:∃A c,v4=D A l.length c:=by obtain⟨A,n,c,rfl,-⟩:=hcs.open_;rw[hcs.len];exact⟨_,_,rfl⟩
 obtain⟨nl,hnl⟩:∃z,z=l.length:=⟨_,rfl⟩
 rw[<-hnl]at hcs hyl2⊢;have HLN:=zZ hnl;have HC4:Bx (au w.heap.size w4 (D AC nl cC) l):=⟨hcs⟩
 have HF4:Bx (LF w.heap.size w1 w4 [(gS,#[B C s.num,D AP nP cP,D AB nB cB,D AX nX cX],27)]):=⟨HF3.out.step HX4 HT4⟩
 have HS4:Bx (aR w.heap.size w4 (.agg #[B C s.num,D AP nP cP,D AB nB cB,D AX nX cX]) s):=⟨HS3.out.xt HX4⟩
 clear hcs hrow hyl hl hnl HT4 HX4 HF3 HS3;clear z0 z1 z2 z3;have HCK:Bx (aC s=0):=⟨iL.2 HOK.out⟩
 go_upto_region 4 with (fail)
 have z0:=(HF4.out.at_ 0 rfl).cell (i:=0) rfl;have z1:=(HF4.out.at_ 0 rfl).cell (i:=1) rfl;have z2:=(HF4.out.at_ 0 rfl).cell (i:=2) rfl;have z3:=(HF4.out.at_ 0 rfl).cell (i:=3) rfl;go_wp2_with fail;refine (aW _ _ s l _ HF4.out.lt HF4.out.tb HS4.out HC4.out (by have:=HLN.out;omega)).mono ?_;rintro e wb ⟨⟨vI,rfl,hI⟩,hx6⟩;rw[show rM s l=cQ s (ay l) from if_pos HCK.out]at hI;rw[HCK.out];obtain⟨AS,cS,AG,cG,rfl⟩:=hI.op;obtain⟨t,ht⟩:∃z,z=cQ s (ay l):=⟨_,rfl⟩
 rw[<-ht]at hI⊢;obtain⟨ns,hns⟩:∃z,z=t.sts.length:=⟨_,rfl⟩
 obtain⟨ng,hng⟩:∃z,z=t.pgs.length:=⟨_,rfl⟩
 rw[<-hns,<-hng]at hI⊢;have HTT:=zZ ht;have HNS:=zZ hns;have HNG:=zZ hng;clear ht hns hng;obtain⟨gI,hgI⟩:∃z,z=wb.heap.size:=⟨_,rfl⟩
 obtain⟨w5,hw5⟩:∃z:World,z=(wb.alloc (.cells #[D AS ns cS,D AG ng cG] 59)):=⟨_,rfl⟩
 have hx5:ab w4 w5:=by rw[hw5];exact hx6.alloc _
 have HF5:Bx (LF w.heap.size w1 w5 [(gS,#[B C s.num,D AP nP cP,D AB nB cB,D AX nX cX],27),(gI,#[D AS ns cS,D AG ng cG],59)]):=⟨by rw[hw5];exact (HF4.out.ext hx6).push _ _ hgI.symm⟩
 have HI5:Bx (aK w.heap.size w5 (.agg #[D AS ns cS,D AG ng cG]) t):=⟨by rw[hw5];exact hI.ext ((zE _).alloc _)⟩
 have HS5:Bx (aR w.heap.size w5 (.agg #[B C s.num,D AP nP cP,D AB nB cB,D AX nX cX]) s):=⟨HS4.out.ext hx5⟩
 have HC5:Bx (au w.heap.size w5 (D AC nl cC) l):=⟨bj.ext HC4.out (bR.stab _) hx5⟩
 clear hI hx6 hx5;go_upto_region 5 with (fail)
 rw[<-hw5,<-hgI];clear hw5 hgI HF4 HS4 HC4 z0 z1 z2 z3;go_wp2_with fail;refine (rj _ l _ HF5.out.lt HC5.out (by have:=HLN.out;omega)).mono ?_;rintro e w6 ⟨⟨va,rfl,⟨bc,nc,-,rfl,hnc,hca⟩⟩,hx6⟩;have HF6:Bx (LF w.heap.size w1 w6 [(gS,#[B C s.num,D AP nP cP,D AB nB cB,D AX nX cX],27),(gI,#[D AS ns cS,D AG ng cG],59)]):=⟨HF5.out.ext hx6⟩
 have HS6:Bx (aR w.heap.size w6 (.agg #[B C s.num,D AP nP cP,D AB nB cB,D AX nX cX]) s):=⟨HS5.out.ext hx6⟩
 have HC6:Bx (au w.heap.size w6 (D AC nl cC) l):=⟨bj.ext HC5.out (bR.stab _) hx6⟩
 have HI6:Bx (aK w.heap.size w6 (.agg #[D AS ns cS,D AG ng cG]) t):=⟨HI5.out.ext hx6⟩
 have HK6:Bx (au w.heap.size w6 (D (some ⟨bc,0,none⟩) nc nc) (ay l)):=⟨hca⟩
 have HNC:=zZ hnc;clear hnc hca hx6 HF5 HS5 HC5 HI5;have HG6:Bx (Ce w.heap.size w6 (D AG ng cG) t.pgs):=⟨by obtain⟨_,_,e,-,h⟩:=HI6.out;obtain⟨-,rfl⟩:=Kw e;exact h⟩
 have hng6:ng<=9223372036854775807:=by obtain⟨_,_,_,e9,-,-,h9,-⟩:=HG6.out.open_;cases e9;exact h9
 have hnc6:nc<=9223372036854775807:=by obtain⟨_,_,_,e9,-,-,h9,-⟩:=HK6.out.open_;cases e9;exact h9
 have i1:=(HF6.out.at_ 1 rfl).cell (i:=1) rfl;by_cases hg0:0<ng;case neg =>
  obtain rfl:ng=0:=by omega
  go_wp2_with fail;refine (cN _ HF6.out.tb).mono ?_;rintro e w7 ⟨rfl,hx7⟩;go_wp2_with fail;go_ret
  exact⟨rfl,(HF6.out.fin HE.out).trans hx7⟩
 have hbd:0<=eW a1 ng/\eW a1 ng<ng:=⟨vn _ _,vy _ _ (by omega)⟩
 obtain⟨j,hj⟩:=zG hbd.1;have hjn:j<ng:=by have:=hbd.2;omega
 have HJ:=zZ hj;clear hbd hj;obtain⟨bg,og,_,_,rfl,-⟩:=HG6.out.at_ hjn;obtain⟨pc,pg,pt,ps,pq,pch,pA,pm,pcc,HP,-,-,p0,p1,p2,p3,p4,p5⟩:=Ce.read HG6.out (zE w6) hjn;obtain⟨i0,c0,lab,q1,q2,q3,q4,q5,q6,q7,q8,q9⟩:=Mm (s:=s) HSP.out (p:=⟨pc,pg,pt,pch,⟨ps,pq⟩⟩) (by rw[<-HTT.out];exact zW HP.out);rw[<-HTT.out]at q5 q7 q8 q9;have hi0:i0<nc:=by rw[HNC.out];exact (zY.1 q1).1
 obtain⟨xt,xs,xq,xk,xct,xts,xtq,xlp,xlc,xlg,xlv,xstr,xch,xA,xn,xcc,HX,hcx,hix,hwx⟩:=au.read HK6.out (XT.refl w.heap.size w6) hi0;rw[yV]at hcx;have hc0:c0=⟨⟨xt,xs,xq⟩,xk,xstr,xct,xch,⟨xts,xtq⟩,⟨xlp,xlc,xlg,xlv⟩⟩:=by have h:=HX.out;rw[q1]at h;injection h
 have hk0:xk=1:=by rw[hc0]at q2;exact q2
 have hs0:ps=xs/\pq=xq:=by rw[hc0]at q3;injection q3 with h1 h2;exact⟨h1.symm,h2.symm⟩
 rw[hc0]at q6 q7 q8 q9 q1;obtain⟨rfl,rfl⟩:=hs0;subst hk0;clear hc0 q2 q3;obtain⟨la,lb,lc,ld⟩:=lab;have HCX:=zZ hcx;have HIX:=zZ hix;have HXW:=zZ hwx;have HQ4:=zZ q4;have HQ5:=zZ q5;have HQ6:=zZ q6;have HQ7:=zZ q7;have HQ8:=zZ q8;have HQ9:=zZ q9;clear hcx hix hwx q1 q4 q5 q6 q7 q8 q9;go_upto_region 10 with (fail)
 go_cut [12] (fun s12 wx=>∃gp,s12=.pointer (some ⟨gp,0,none⟩)/\Bx (aA w6 wx [(gp,#[B C pc,B C pg,B C pt,D pA pm pcc,B C ps,B C pq],72)]))
 case first =>
  refine px 99 (fun w'=>ab w6 w') (by kernel_rfl) ?_;have kS:ab w6 w6.drew:=(zE _).drew;obtain⟨wd,hwd⟩:∃z:World,z=w6.drew:=⟨_,rfl⟩
  rw[<-hwd]at kS⊢;clear hwd;have HF30:Bx (aA w6 wd []):=⟨(aA.start w6).ext kS⟩
  refine ur 6 [(0,53),(1,54),(2,55),(3,56),(4,57),(5,58)] rfl (by kernel_rfl) (by kernel_rfl) (fun _ _ _ _ _ h=>h) kS ?_;iterate 6 (apply Ff;(case ho=>exact rfl);(case hw=>exact rfl);(case hy=>((intro wk hk);(try dsimp only at hk);(replace i1:=hk.cell i1);(replace p0:=hk.cell p0);(replace p1:=hk.cell p1);(replace p2:=hk.cell p2);(replace p3:=hk.cell p3);(replace p4:=hk.cell p4);(replace p5:=hk.cell p5);go_simp;try with_reducible rfl));(case hput=>(simp only[Act.put,List.setIfInBounds_toArray,List.set_cons_zero,List.set_cons_succ];exact rfl)))
  refine Lh ?_;apply Mo (Q:=fun gp W=>aA w6 W [(gp,#[B C 0,B C 0,B C 0,D none 0 0,B C 0,B C 0],72)]);case h =>
   intro rest;refine an 6 9 (by kernel_rfl) rfl rfl (fun K hK=>?_) (fun K hK=>?_)
   ·skip
    go_simp;refine (qb a1 ng _ HA1.out.1 HA1.out.2 (by omega)).mono ?_;rintro e w31 ⟨rfl,hxe⟩;have hx:ab wd w31:=by rw[<-hxe];exact zE _
    rw[HJ.out];clear hxe;have HF31:Bx (aA w6 w31 []):=⟨HF30.out.ext hx⟩
    clear hx;have k31:=HF31.out.xt;refine hK.out _ _ (fun _=>k31) ?_;clear hK K;try simp only[Act.put,List.setIfInBounds_toArray,vA,List.set_cons_succ]
    refine ur 2 [(7,60),(8,61)] rfl (by kernel_rfl) (by kernel_rfl) (fun _ _ _ _ _ h=>h) k31 ?_;iterate 2 (apply Ff;(case ho=>exact rfl);(case hw=>exact rfl);(case hy=>((intro wk hk);(try dsimp only at hk);(replace i1:=hk.cell i1);(replace p0:=hk.cell p0);(replace p1:=hk.cell p1);(replace p2:=hk.cell p2);(replace p3:=hk.cell p3);(replace p4:=hk.cell p4);(replace p5:=hk.cell p5);go_simp;try with_reducible rfl));(case hput=>(simp only[Act.put,List.setIfInBounds_toArray,List.set_cons_zero,List.set_cons_succ];exact rfl)))
    refine Lh ?_;refine Cw 9 (by kernel_rfl) rfl (fun K hK=>?_);go_simp;obtain⟨gp,hg⟩:∃z,z=w31.heap.size:=⟨_,rfl⟩
    obtain⟨w32,hw32⟩:∃z:World,z=(w31.alloc (.cells #[B C 0,B C 0,B C 0,D none 0 0,B C 0,B C 0] 72)):=⟨_,rfl⟩
    have HF32:Bx (aA w6 w32 [(gp,#[B C 0,B C 0,B C 0,D none 0 0,B C 0,B C 0],72)]):=⟨by rw[hw32];exact HF31.out.push _ _ hg.symm⟩
    rw[<-hw32,<-hg];clear hw32 hg;have k32:=HF32.out.xt;refine hK.out _ _ (fun _=>k32) ?_;clear hK K;try simp only[Act.put,List.setIfInBounds_toArray,vA,List.set_cons_succ]
    exact rest.out gp w32 ⟨HF32.out⟩
   ·skip
    go_simp;obtain⟨gp,hg⟩:∃z,z=wd.heap.size:=⟨_,rfl⟩
    obtain⟨w33,hw33⟩:∃z:World,z=(wd.alloc (.cells #[B C 0,B C 0,B C 0,D none 0 0,B C 0,B C 0] 72)):=⟨_,rfl⟩
    have HF33:Bx (aA w6 w33 [(gp,#[B C 0,B C 0,B C 0,D none 0 0,B C 0,B C 0],72)]):=⟨by rw[hw33];exact HF30.out.push _ _ hg.symm⟩
    rw[<-hw33,<-hg];clear hw33 hg;have k33:=HF33.out.xt;refine hK.out _ _ (fun _=>k33) ?_;clear hK K;try simp only[Act.put,List.setIfInBounds_toArray,vA,List.set_cons_succ]
    refine Cw 6 (by kernel_rfl) rfl (fun K hK=>?_);go_simp;refine (qb a1 ng _ HA1.out.1 HA1.out.2 (by omega)).mono ?_;rintro e w34 ⟨rfl,hxe⟩;have hx:ab w33 w34:=by rw[<-hxe];exact zE _
    rw[HJ.out];clear hxe;have HF34:Bx (aA w6 w34 [(gp,#[B C 0,B C 0,B C 0,D none 0 0,B C 0,B C 0],72)]):=⟨HF33.out.ext hx⟩
    clear hx;have k34:=HF34.out.xt;refine hK.out _ _ (fun _=>k34) ?_;clear hK K;try simp only[Act.put,List.setIfInBounds_toArray,vA,List.set_cons_succ]
    refine ur 2 [(7,60),(8,61)] rfl (by kernel_rfl) (by kernel_rfl) (fun _ _ _ _ _ h=>h) k34 ?_;iterate 2 (apply Ff;(case ho=>exact rfl);(case hw=>exact rfl);(case hy=>((intro wk hk);(try dsimp only at hk);(replace i1:=hk.cell i1);(replace p0:=hk.cell p0);(replace p1:=hk.cell p1);(replace p2:=hk.cell p2);(replace p3:=hk.cell p3);(replace p4:=hk.cell p4);(replace p5:=hk.cell p5);go_simp;try with_reducible rfl));(case hput=>(simp only[Act.put,List.setIfInBounds_toArray,List.set_cons_zero,List.set_cons_succ];exact rfl)))
    refine Lh ?_;exact rest.out gp w34 ⟨HF34.out⟩
  case r =>
   intro gp wj HFj;have kj:=HFj.out.xt;refine Cw 10 (by kernel_rfl) rfl (fun K hK=>?_);refine aD (by rfl) (Ml rfl rfl rfl (HFj.out.at_ 0 rfl) rfl) ?_;have hR:=HFj.out.setAll 0 rfl [B C pc,B C pg,B C pt,D pA pm pcc,B C ps,B C pq] rfl;have kR:=hR.xt;refine hK.out _ _ (fun _=>kR) ?_;clear hK K;try simp only[Act.put,List.setIfInBounds_toArray,vA,List.set_cons_succ]
   skip
   refine zc (by kernel_rfl) ?_ _;go_wp2_with fail;go_meet
   exact⟨gp,rfl,⟨hR⟩⟩
 case rest =>
 obtain⟨gp,rfl,HP7⟩:=hcut;obtain⟨w7,rfl⟩:∃z,z=wc:=⟨_,rfl⟩
 clear i1 p0 p1 p2 p3 p4 p5;obtain⟨gC,hgC⟩:∃z,z=w7.heap.size:=⟨_,rfl⟩
 obtain⟨w8,hw8⟩:∃z:World,z=(w7.alloc (.cells #[B C 0,B C 0,B C 0,B C 0,.string ⟨#[]⟩,B C 0,D none 0 0,B C 0,B C 0,B C 0,B C 0,B C 0,B C 0] 47)):=⟨_,rfl⟩
 have HF8:Bx (aA w6 w8 [(gp,#[B C pc,B C pg,B C pt,D pA pm pcc,B C ps,B C pq],72),(gC,#[B C 0,B C 0,B C 0,B C 0,.string ⟨#[]⟩,B C 0,D none 0 0,B C 0,B C 0,B C 0,B C 0,B C 0,B C 0],47)]):=⟨by rw[hw8];exact HP7.out.push _ _ hgC.symm⟩
 go_upto_region 12 with (fail)
 rw[<-hw8,<-hgC];clear hw8 hgC HP7;go_wp2_with fail;go_loopw [14] (fun s14 wr=>∃k:Nat,s14=B C k/\k<=nc/\Bx (aA w6 wr [(gp,#[B C pc,B C pg,B C pt,D pA pm pcc,B C ps,B C pq],72),(gC,if i0<k then #[B C xt,B C ps,B C pq,B C 1,.string (ba xstr),B C xct,D xA xn xcc,B C xts,B C xtq,B C xlp,B C xlc,B C xlg,B C xlv] else #[B C 0,B C 0,B C 0,B C 0,.string ⟨#[]⟩,B C 0,D none 0 0,B C 0,B C 0,B C 0,B C 0,B C 0,B C 0],47)])) (fun s14 _=>nc-(intOf s14).toNat)
 case atStart=>exact⟨0,rfl,by omega,⟨by rw[if_neg (by omega)];exact HF8.out⟩⟩
 case round =>
  obtain⟨k,rfl,hk,HR⟩:=hrel;have gI':=fC;have g4:=(HR.out.at_ 0 rfl).cell (i:=4) rfl;have g5:=(HR.out.at_ 0 rfl).cell (i:=5) rfl;by_cases hkn:k<nc
  ·go_upto_block 1 with (fail)
   go_cut [] (fun wx=>Bx (aA w6 wx [(gp,#[B C pc,B C pg,B C pt,D pA pm pcc,B C ps,B C pq],72),(gC,if i0<k+1 then #[B C xt,B C ps,B C pq,B C 1,.string (ba xstr),B C xct,D xA xn xcc,B C xts,B C xtq,B C xlp,B C xlc,B C xlg,B C xlv] else #[B C 0,B C 0,B C 0,B C 0,.string ⟨#[]⟩,B C 0,D none 0 0,B C 0,B C 0,B C 0,B C 0,B C 0,B C 0],47)]))
   case first =>
    by_cases hki:k=i0
    ·subst hki;have HR0:Bx (aA w6 wr [(gp,#[B C pc,B C pg,B C pt,D pA pm pcc,B C ps,B C pq],72),(gC,#[B C 0,B C 0,B C 0,B C 0,.string ⟨#[]⟩,B C 0,D none 0 0,B C 0,B C 0,B C 0,B C 0,B C 0,B C 0],47)]):=⟨by have h:=HR.out;rw[if_neg (by omega)]at h;exact h⟩
     obtain⟨e0,e1,e2,e3,e4,e5,e6,e7,e8,e9,e10,e11,e12⟩:=HCX.out.ext HR0.out.xt;have eI:=fun W=>jW ps pq ps pq W;rw[decide_eq_true ⟨rfl,rfl⟩]at eI;go_upto_region 15 with (fail)
     refine px 99 (fun w'=>ab wr w') (by kernel_rfl) ?_;have kS:ab wr wr.drew:=(zE _).drew;obtain⟨wd,hwd⟩:∃z:World,z=wr.drew:=⟨_,rfl⟩
     rw[<-hwd]at kS⊢;clear hwd;refine ur 13 [(0,68),(1,69),(2,70),(3,71),(4,72),(5,73),(6,74),(7,75),(8,76),(9,77),(10,78),(12,80),(13,81)] rfl (by kernel_rfl) (by kernel_rfl) (fun _ _ _ _ _ h=>h) kS ?_;iterate 13 (apply Ff;(case ho=>exact rfl);(case hw=>exact rfl);(case hy=>((intro wk hk);(try dsimp only at hk);(replace g4:=hk.cell g4);(replace g5:=hk.cell g5);(replace e0:=hk.cell e0);(replace e1:=hk.cell e1);(replace e2:=hk.cell e2);(replace e3:=hk.cell e3);(replace e4:=hk.cell e4);(replace e5:=hk.cell e5);(replace e6:=hk.cell e6);(replace e7:=hk.cell e7);(replace e8:=hk.cell e8);(replace e9:=hk.cell e9);(replace e10:=hk.cell e10);(replace e11:=hk.cell e11);(replace e12:=hk.cell e12);go_simp;try with_reducible rfl));(case hput=>(simp only[Act.put,List.setIfInBounds_toArray,List.set_cons_zero,List.set_cons_succ];exact rfl)))
     refine Lh ?_;refine Cw 11 (by kernel_rfl) rfl (fun K hK=>?_);go_simp;refine (dN _ _ _ _ _ _ _ _ _ _ _ _ _ _ _ _).mono ?_;rintro e wa ⟨rfl,hx⟩;have kS2:ab wr wa:=kS.trans hx;refine hK.out _ _ (fun _=>kS2) ?_;clear hK K;try simp only[Act.put,List.setIfInBounds_toArray,vA,List.set_cons_succ]
     refine ur 2 [(14,82),(15,83)] rfl (by kernel_rfl) (by kernel_rfl) (fun _ _ _ _ _ h=>h) kS2 ?_;iterate 2 (apply Ff;(case ho=>exact rfl);(case hw=>exact rfl);(case hy=>((intro wk hk);(try dsimp only at hk);(replace g4:=hk.cell g4);(replace g5:=hk.cell g5);(replace e0:=hk.cell e0);(replace e1:=hk.cell e1);(replace e2:=hk.cell e2);(replace e3:=hk.cell e3);(replace e4:=hk.cell e4);(replace e5:=hk.cell e5);(replace e6:=hk.cell e6);(replace e7:=hk.cell e7);(replace e8:=hk.cell e8);(replace e9:=hk.cell e9);(replace e10:=hk.cell e10);(replace e11:=hk.cell e11);(replace e12:=hk.cell e12);go_simp;try with_reducible rfl));(case hput=>(simp only[Act.put,List.setIfInBounds_toArray,List.set_cons_zero,List.set_cons_succ];exact rfl)))
     refine Lh ?_;refine zc (by kernel_rfl) ?_ _;have HRA:Bx (aA w6 wa [(gp,#[B C pc,B C pg,B C pt,D pA pm pcc,B C ps,B C pq],72),(gC,#[B C 0,B C 0,B C 0,B C 0,.string ⟨#[]⟩,B C 0,D none 0 0,B C 0,B C 0,B C 0,B C 0,B C 0,B C 0],47)]):=⟨HR0.out.ext kS2⟩
     clear kS kS2 hx g4 g5 e0 e1 e2 e3 e4 e5 e6 e7 e8 e9 e10 e11 e12 eI;obtain⟨e0,e1,e2,e3,e4,e5,e6,e7,e8,e9,e10,e11,e12⟩:=HCX.out.ext HRA.out.xt;have j0:=(HRA.out.at_ 1 rfl).cell (i:=0) rfl;have j1:=(HRA.out.at_ 1 rfl).cell (i:=1) rfl;have j2:=(HRA.out.at_ 1 rfl).cell (i:=2) rfl;have j3:=(HRA.out.at_ 1 rfl).cell (i:=3) rfl;have j4:=(HRA.out.at_ 1 rfl).cell (i:=4) rfl;have j5:=(HRA.out.at_ 1 rfl).cell (i:=5) rfl;have j6:=(HRA.out.at_ 1 rfl).cell (i:=6) rfl;have j7:=(HRA.out.at_ 1 rfl).cell (i:=7) rfl;have j8:=(HRA.out.at_ 1 rfl).cell (i:=8) rfl;have j9:=(HRA.out.at_ 1 rfl).cell (i:=9) rfl;have j10:=(HRA.out.at_ 1 rfl).cell (i:=10) rfl;have j11:=(HRA.out.at_ 1 rfl).cell (i:=11) rfl;have j12:=(HRA.out.at_ 1 rfl).cell (i:=12) rfl;have f0:=(HRA.out.at_ 1 rfl).froz 0;have f1:=(HRA.out.at_ 1 rfl).froz 1;have f2:=(HRA.out.at_ 1 rfl).froz 2;have f3:=(HRA.out.at_ 1 rfl).froz 3;have f4:=(HRA.out.at_ 1 rfl).froz 4;have f5:=(HRA.out.at_ 1 rfl).froz 5;have f6:=(HRA.out.at_ 1 rfl).froz 6;have f7:=(HRA.out.at_ 1 rfl).froz 7;have f8:=(HRA.out.at_ 1 rfl).froz 8;have f9:=(HRA.out.at_ 1 rfl).froz 9;have f10:=(HRA.out.at_ 1 rfl).froz 10;have f11:=(HRA.out.at_ 1 rfl).froz 11;have f12:=(HRA.out.at_ 1 rfl).froz 12;go_wp2_with fail;go_meet
     have hh:=HRA.out.setAll 1 rfl [B C xt,B C ps,B C pq,B C 1,.string (ba xstr),B C xct,D xA xn xcc,B C xts,B C xtq,B C xlp,B C xlc,B C xlg,B C xlv] rfl;refine⟨?_⟩;rw[if_pos (by omega)];exact hh
    ·have HNX:Bx (∀z,aA w6 z [(gp,#[B C pc,B C pg,B C pt,D pA pm pcc,B C ps,B C pq],72),(gC,if i0<k then #[B C xt,B C ps,B C pq,B C 1,.string (ba xstr),B C xct,D xA xn xcc,B C xts,B C xtq,B C xlp,B C xlc,B C xlg,B C xlv] else #[B C 0,B C 0,B C 0,B C 0,.string ⟨#[]⟩,B C 0,D none 0 0,B C 0,B C 0,B C 0,B C 0,B C 0,B C 0],47)]->aA w6 z [(gp,#[B C pc,B C pg,B C pt,D pA pm pcc,B C ps,B C pq],72),(gC,if i0<k+1 then #[B C xt,B C ps,B C pq,B C 1,.string (ba xstr),B C xct,D xA xn xcc,B C xts,B C xtq,B C xlp,B C xlc,B C xlg,B C xlv] else #[B C 0,B C 0,B C 0,B C 0,.string ⟨#[]⟩,B C 0,D none 0 0,B C 0,B C 0,B C 0,B C 0,B C 0,B C 0],47)]):=⟨fun z h=>by
      by_cases h1:i0<k
      ·rw[if_pos h1]at h;rw[if_pos (by omega)];exact h
      ·rw[if_neg h1]at h;rw[if_neg (by omega)];exact h⟩
     obtain⟨yt,ys,yq,yk,yct,yts,ytq,ylp,ylc,ylg,ylv,ystr,ych,yA,yn,ycc,HY,hcy,-,-⟩:=au.read HK6.out HR.out.xt.xt hkn;rw[yV]at hcy;obtain⟨e0,e1,e2,e3,e4,e5,e6,e7,e8,e9,e10,e11,e12⟩:=hcy;have HNE:Bx (¬(ys=ps/\yq=pq)):=⟨fun⟨h1,h2⟩=>hki (HQ4.out k _ HY.out (by rw[h1,h2];rfl))⟩
     by_cases hyk:yk=1
     ·subst hyk;have eI:=fun W=>jW ys yq ps pq W;rw[decide_eq_false HNE.out]at eI;go_upto_region 15 with (fail)
      refine px 99 (fun w'=>ab wr w') (by kernel_rfl) ?_;have kS:ab wr wr.drew:=(zE _).drew;obtain⟨wd,hwd⟩:∃z:World,z=wr.drew:=⟨_,rfl⟩
      rw[<-hwd]at kS⊢;clear hwd;refine ur 13 [(0,68),(1,69),(2,70),(3,71),(4,72),(5,73),(6,74),(7,75),(8,76),(9,77),(10,78),(12,80),(13,81)] rfl (by kernel_rfl) (by kernel_rfl) (fun _ _ _ _ _ h=>h) kS ?_;iterate 13 (apply Ff;(case ho=>exact rfl);(case hw=>exact rfl);(case hy=>((intro wk hk);(try dsimp only at hk);(replace g4:=hk.cell g4);(replace g5:=hk.cell g5);(replace e0:=hk.cell e0);(replace e1:=hk.cell e1);(replace e2:=hk.cell e2);(replace e3:=hk.cell e3);(replace e4:=hk.cell e4);(replace e5:=hk.cell e5);(replace e6:=hk.cell e6);(replace e7:=hk.cell e7);(replace e8:=hk.cell e8);(replace e9:=hk.cell e9);(replace e10:=hk.cell e10);(replace e11:=hk.cell e11);(replace e12:=hk.cell e12);go_simp;try with_reducible rfl));(case hput=>(simp only[Act.put,List.setIfInBounds_toArray,List.set_cons_zero,List.set_cons_succ];exact rfl)))
      refine Lh ?_;refine Cw 11 (by kernel_rfl) rfl (fun K hK=>?_);go_simp;refine (dN _ _ _ _ _ _ _ _ _ _ _ _ _ _ _ _).mono ?_;rintro e wa ⟨rfl,hx⟩;have kS2:ab wr wa:=kS.trans hx;refine hK.out _ _ (fun _=>kS2) ?_;clear hK K;try simp only[Act.put,List.setIfInBounds_toArray,vA,List.set_cons_succ]
      refine ur 2 [(14,82),(15,83)] rfl (by kernel_rfl) (by kernel_rfl) (fun _ _ _ _ _ h=>h) kS2 ?_;iterate 2 (apply Ff;(case ho=>exact rfl);(case hw=>exact rfl);(case hy=>((intro wk hk);(try dsimp only at hk);(replace g4:=hk.cell g4);(replace g5:=hk.cell g5);(replace e0:=hk.cell e0);(replace e1:=hk.cell e1);(replace e2:=hk.cell e2);(replace e3:=hk.cell e3);(replace e4:=hk.cell e4);(replace e5:=hk.cell e5);(replace e6:=hk.cell e6);(replace e7:=hk.cell e7);(replace e8:=hk.cell e8);(replace e9:=hk.cell e9);(replace e10:=hk.cell e10);(replace e11:=hk.cell e11);(replace e12:=hk.cell e12);go_simp;try with_reducible rfl));(case hput=>(simp only[Act.put,List.setIfInBounds_toArray,List.set_cons_zero,List.set_cons_succ];exact rfl)))
      refine Lh ?_;refine zc (by kernel_rfl) ?_ _;have HRA:=zZ (HNX.out wa (HR.out.ext kS2));clear kS kS2 hx g4 g5 e0 e1 e2 e3 e4 e5 e6 e7 e8 e9 e10 e11 e12 eI;go_wp2_with fail;go_meet
      exact⟨HRA.out⟩
     ·have hk1:(yk==1)=false:=by simpa using hyk
      go_upto_region 15 with (fail)
      refine px 99 (fun w'=>ab wr w') (by kernel_rfl) ?_;have kS:ab wr wr.drew:=(zE _).drew;obtain⟨wd,hwd⟩:∃z:World,z=wr.drew:=⟨_,rfl⟩
      rw[<-hwd]at kS⊢;clear hwd;refine ur 16 [(0,68),(1,69),(2,70),(3,71),(4,72),(5,73),(6,74),(7,75),(8,76),(9,77),(10,78),(11,79),(12,80),(13,81),(14,82),(15,83)] rfl (by kernel_rfl) (by kernel_rfl) (fun _ _ _ _ _ h=>h) kS ?_;iterate 7 (apply Ff;(case ho=>exact rfl);(case hw=>exact rfl);(case hy=>((intro wk hk);(try dsimp only at hk);(replace e0:=hk.cell e0);(replace e1:=hk.cell e1);(replace e2:=hk.cell e2);(replace e3:=hk.cell e3);(replace e4:=hk.cell e4);(replace e5:=hk.cell e5);(replace e6:=hk.cell e6);(replace e7:=hk.cell e7);(replace e8:=hk.cell e8);(replace e9:=hk.cell e9);(replace e10:=hk.cell e10);(replace e11:=hk.cell e11);(replace e12:=hk.cell e12);go_simp;try with_reducible rfl));(case hput=>(simp only[Act.put,List.setIfInBounds_toArray,List.set_cons_zero,List.set_cons_succ];exact rfl)))
      iterate 8 (apply Eo;(case ho=>exact rfl);(case hw=>exact rfl);(case hput=>(simp only[Act.put,List.setIfInBounds_toArray,vA,List.set_cons_succ];exact rfl)))
      (apply Ff;(case ho=>exact rfl);(case hw=>exact rfl);(case hy=>((intro wk hk);(try dsimp only at hk);(replace e0:=hk.cell e0);(replace e1:=hk.cell e1);(replace e2:=hk.cell e2);(replace e3:=hk.cell e3);(replace e4:=hk.cell e4);(replace e5:=hk.cell e5);(replace e6:=hk.cell e6);(replace e7:=hk.cell e7);(replace e8:=hk.cell e8);(replace e9:=hk.cell e9);(replace e10:=hk.cell e10);(replace e11:=hk.cell e11);(replace e12:=hk.cell e12);go_simp;try with_reducible rfl));(case hput=>(simp only[Act.put,List.setIfInBounds_toArray,List.set_cons_zero,List.set_cons_succ];exact rfl)));refine Lh ?_;refine zc (by kernel_rfl) ?_ _;have HRA:=Lib.hid (HNX.out wd (HR.out.ext kS));clear kS g4 g5 e0 e1 e2 e3 e4 e5 e6 e7 e8 e9 e10 e11 e12;go_wp2_with fail;go_meet
      exact⟨HRA.out⟩
   case rest =>
   have HRX:=zZ hcut.out;go_wp2_with fail;go_roundw
   case rel=>exact⟨k+1,by go_num,by omega,⟨HRX.out⟩⟩
   case measure=>simp[intOf];omega
  ·obtain rfl:k=nc:=by omega
   have HR0:Bx (aA w6 wr [(gp,#[B C pc,B C pg,B C pt,D pA pm pcc,B C ps,B C pq],72),(gC,#[B C xt,B C ps,B C pq,B C 1,.string (ba xstr),B C xct,D xA xn xcc,B C xts,B C xtq,B C xlp,B C xlc,B C xlg,B C xlv],47)]):=⟨by have h:=HR.out;rw[if_pos hi0]at h;exact h⟩
   obtain⟨wa,rfl⟩:∃z,z=wr:=⟨_,rfl⟩
   clear HR HF8 hk;obtain⟨t2,ht2⟩:∃z,z=cQ s (ay (l++[(Md ⟨⟨xt,ps,pq⟩,1,xstr,xct,xch,⟨xts,xtq⟩,⟨xlp,xlc,xlg,xlv⟩⟩),(Me ⟨la,lb,lc,ld⟩)])):=⟨_,rfl⟩
   have hq6:=HQ6.out;have hq7:=HQ7.out;have hq8:=HQ8.out;have hq9:=HQ9.out;rw[<-ht2]at hq6 hq7 hq8 hq9;obtain⟨m2,hm2⟩:∃z,z=t2.sts.length:=⟨_,rfl⟩
   have HT2:=zZ ht2;have HM2:Bx (m2=t2.sts.length/\m2=ns+1/\t2.pgs.length=ng):=⟨hm2,by rw[hm2,hq7,HNS.out],by rw[hq9,HNG.out]⟩
   have hm3:m2<=1000:=by have h1:=L7 s (ay (l++[(Md ⟨⟨xt,ps,pq⟩,1,xstr,xct,xch,⟨xts,xtq⟩,⟨xlp,xlc,xlg,xlv⟩⟩),(Me ⟨la,lb,lc,ld⟩)]));have h2:=Bd (l++[(Md ⟨⟨xt,ps,pq⟩,1,xstr,xct,xch,⟨xts,xtq⟩,⟨xlp,xlc,xlg,xlv⟩⟩),(Me ⟨la,lb,lc,ld⟩)]);rw[<-HT2.out,<-HM2.out.1]at h1;rw[yU,<-HLN.out]at h2;simp only[xQ,List.length_nil]at h2;omega
   have HFL:=zZ hq8;have HPG:=zZ hq9;have HQA:=zZ hq6;have hlw:Bx (cJ.wf ⟨la,lb,lc,ld⟩):=⟨Mk HI6.out HQ5.out⟩
   have HCW:Bx (aj.wf (Md ⟨⟨xt,ps,pq⟩,1,xstr,xct,xch,⟨xts,xtq⟩,⟨xlp,xlc,xlg,xlv⟩⟩)/\aj.wf (Me ⟨la,lb,lc,ld⟩)):=⟨⟨⟨(by decide:aU 1000000),(by decide:aU 60),(by decide:aU 1)⟩,HXW.out.2.1,HXW.out.2.2.1,HXW.out.2.2.2.1,HXW.out.2.2.2.2.1,HXW.out.2.2.2.2.2.1,HXW.out.2.2.2.2.2.2⟩,⟨⟨(by decide:aU 1000000),(by decide:aU 60),(by decide:aU 2)⟩,(by decide:aU 2),by simp[Me],pM,⟨(by decide:aU 60),(by decide:aU 1)⟩,hlw.out,by simp[Me]⟩⟩
   clear hq6 hq7 hq8 hq9 ht2 hm2 hlw;have HST1:Bx (∀v wx,aK w.heap.size wx v t->Calls prog 38 #[v,.agg #[B C ps,B C pq]] wx fun e w'=>e=.returned (.tuple #[.agg #[B C ps,B C pq,B C 1,B C la,B C lb,B C lc,B C ld],.bool true])/\ab wx w'):=⟨fun v wx hx=>(mG _ t ps pq wx hx).mono (by rintro e w' ⟨⟨y,hy,rfl⟩,hw⟩;rw[show tU t.sts ⟨ps,pq⟩=_ from HQ5.out]at hy⊢;subst hy;exact⟨rfl,hw⟩)⟩
   have HST2:Bx (∀v wx,aK w.heap.size wx v t2->Calls prog 38 #[v,.agg #[B C 60,B C 1]] wx fun e w'=>e=.returned (.tuple #[.agg #[B C 60,B C 1,B C 2,B C la,B C lb,B C lc,B C ld],.bool true])/\ab wx w'):=⟨fun v wx hx=>(mG _ t2 60 1 wx hx).mono (by rintro e w' ⟨⟨y,hy,rfl⟩,hw⟩;rw[show tU t2.sts ⟨60,1⟩=_ from HQA.out]at hy⊢;subst hy;exact⟨rfl,hw⟩)⟩
   have i0:=(((HF6.out.at_ 1 rfl).ext HR0.out.xt)).cell (i:=0) rfl;have i1:=(((HF6.out.at_ 1 rfl).ext HR0.out.xt)).cell (i:=1) rfl;have g4:=(HR0.out.at_ 0 rfl).cell (i:=4) rfl;have g5:=(HR0.out.at_ 0 rfl).cell (i:=5) rfl;go_wp2_with fail;refine (HST1.out _ _ (HI6.out.ext HR0.out.xt)).mono ?_;rintro e wb ⟨rfl,hxb⟩;obtain⟨gs,hgs⟩:∃z,z=wb.heap.size:=⟨_,rfl⟩
   obtain⟨w9,hw9⟩:∃z:World,z=(wb.alloc (.cells #[B C ps,B C pq,B C 1,B C la,B C lb,B C lc,B C ld] 67)):=⟨_,rfl⟩
   have HR9:Bx (aA w6 w9 [(gp,#[B C pc,B C pg,B C pt,D pA pm pcc,B C ps,B C pq],72),(gC,#[B C xt,B C ps,B C pq,B C 1,.string (ba xstr),B C xct,D xA xn xcc,B C xts,B C xtq,B C xlp,B C xlc,B C xlg,B C xlv],47),(gs,#[B C ps,B C pq,B C 1,B C la,B C lb,B C lc,B C ld],67)]):=⟨by rw[hw9];exact (HR0.out.ext hxb).push _ _ hgs.symm⟩
   go_upto_region 18 with (fail)
   rw[<-hw9,<-hgs];clear hw9 hgs i0 i1 g4 g5 hxb HR0 HST1;have j0:=(HR9.out.at_ 1 rfl).cell (i:=0) rfl;have j1:=(HR9.out.at_ 1 rfl).cell (i:=1) rfl;have j2:=(HR9.out.at_ 1 rfl).cell (i:=2) rfl;have f0:=(HR9.out.at_ 1 rfl).froz 0;have f1:=(HR9.out.at_ 1 rfl).froz 1;have f2:=(HR9.out.at_ 1 rfl).froz 2;go_upto_region 19 with (fail)
   obtain⟨w10,hw10⟩:∃z:World,z=(((w9.setCell ⟨gC,0,none⟩ (B C 1000000)).setCell ⟨gC,1,none⟩ (B C 60)).setCell ⟨gC,2,none⟩ (B C 1)):=⟨_,rfl⟩
   have HR10:Bx (aA w6 w10 [(gp,#[B C pc,B C pg,B C pt,D pA pm pcc,B C ps,B C pq],72),(gC,#[B C 1000000,B C 60,B C 1,B C 1,.string (ba xstr),B C xct,D xA xn xcc,B C xts,B C xtq,B C xlp,B C xlc,B C xlg,B C xlv],47),(gs,#[B C ps,B C pq,B C 1,B C la,B C lb,B C lc,B C ld],67)]):=⟨by rw[hw10];exact ((HR9.out.set 1 rfl 0 _).set 1 rfl 1 _).set 1 rfl 2 _⟩
   rw[<-hw10];clear hw10 j0 j1 j2 f0 f1 f2 HR9;have HX10:Bx (ab w6 w10):=⟨HR10.out.xt⟩
   have HF10:Bx (LF w.heap.size w1 w10 [(gS,#[B C s.num,D AP nP cP,D AB nB cB,D AX nX cX],27),(gI,#[D AS ns cS,D (some ⟨bg,og,none⟩) ng cG],59)]):=⟨HF6.out.ext HX10.out⟩
   have HC10:Bx (au w.heap.size w10 (D AC nl cC) l):=⟨bj.ext HC6.out (bR.stab _) HX10.out⟩
   have hl0:0<nl:=by rw[HLN.out];exact List.length_pos_of_mem (Mf (zW HX.out))
   obtain⟨bl,ol,_,_,rfl,-⟩:=HC10.out.at_ hl0;have e0:=(HR10.out.at_ 1 rfl).cell (i:=0) rfl;have e1:=(HR10.out.at_ 1 rfl).cell (i:=1) rfl;have e2:=(HR10.out.at_ 1 rfl).cell (i:=2) rfl;have e3:=(HR10.out.at_ 1 rfl).cell (i:=3) rfl;have e4:=(HR10.out.at_ 1 rfl).cell (i:=4) rfl;have e5:=(HR10.out.at_ 1 rfl).cell (i:=5) rfl;have e6:=(HR10.out.at_ 1 rfl).cell (i:=6) rfl;have e7:=(HR10.out.at_ 1 rfl).cell (i:=7) rfl;have e8:=(HR10.out.at_ 1 rfl).cell (i:=8) rfl;have e9:=(HR10.out.at_ 1 rfl).cell (i:=9) rfl;have e10:=(HR10.out.at_ 1 rfl).cell (i:=10) rfl;have e11:=(HR10.out.at_ 1 rfl).cell (i:=11) rfl;have e12:=(HR10.out.at_ 1 rfl).cell (i:=12) rfl;have b0:=(HR10.out.at_ 2 rfl).cell (i:=3) rfl;have b1:=(HR10.out.at_ 2 rfl).cell (i:=4) rfl;have b2:=(HR10.out.at_ 2 rfl).cell (i:=5) rfl;have b3:=(HR10.out.at_ 2 rfl).cell (i:=6) rfl;obtain⟨iC,hiC,hC0,hC1,hC2⟩:=info_parts Tryz.infoCap;have hpl:w.heap.size<w10.heap.size:=HF10.out.lt;go_cut [17] (fun s17 wx=>∃g3 c3,s17=D (some ⟨g3,0,none⟩) (nl+2) c3/\Bx (ab w10 wx/\au w.heap.size wx (D (some ⟨g3,0,none⟩) (nl+2) c3) (l++[(Md ⟨⟨xt,ps,pq⟩,1,xstr,xct,xch,⟨xts,xtq⟩,⟨xlp,xlc,xlg,xlv⟩⟩),(Me ⟨la,lb,lc,ld⟩)])))
   case first =>
    refine px 99 (fun w'=>ab w10 w') (by kernel_rfl) ?_;have kS:ab w10 w10.drew:=(zE _).drew;obtain⟨wd,hwd⟩:∃z:World,z=w10.drew:=⟨_,rfl⟩
    rw[<-hwd]at kS⊢;clear hwd;refine ur 7 [(1,98),(3,100),(4,101),(5,102),(6,103),(7,104),(8,105)] rfl (by kernel_rfl) (by kernel_rfl) (fun _ _ _ _ _ h=>h) kS ?_;iterate 7 (apply Ff;(case ho=>exact rfl);(case hw=>exact rfl);(case hy=>((intro wk hk);(try dsimp only at hk);(replace e0:=hk.cell e0);(replace e1:=hk.cell e1);(replace e2:=hk.cell e2);(replace e3:=hk.cell e3);(replace e4:=hk.cell e4);(replace e5:=hk.cell e5);(replace e6:=hk.cell e6);(replace e7:=hk.cell e7);(replace e8:=hk.cell e8);(replace e9:=hk.cell e9);(replace e10:=hk.cell e10);(replace e11:=hk.cell e11);(replace e12:=hk.cell e12);(replace b0:=hk.cell b0);(replace b1:=hk.cell b1);(replace b2:=hk.cell b2);(replace b3:=hk.cell b3);go_simp;try with_reducible rfl));(case hput=>(simp only[Act.put,List.setIfInBounds_toArray,List.set_cons_zero,List.set_cons_succ];exact rfl)))
    refine Lh ?_;apply Mn (Q:=fun gE gq cq g2 c2 W=>ab w10 W/\ah gE 47 13 (bR w.heap.size w10) W (D (some ⟨g2,0,none⟩) nl c2) l/\Bk W gq cq 47/\cq.toList=[B C 1000000,B C 60,B C 1,B C 1,.string (ba xstr),B C xct,D xA xn xcc,B C xts,B C xtq,B C xlp,B C xlc,B C xlg,B C xlv]++[B C 1000000,B C 60,B C 2,B C 2,.string ⟨#[]⟩,B C 0,D none 0 0,B C 60,B C 1,B C la,B C lb,B C lc,B C ld]/\w10.heap.size<=gE/\gE<=W.heap.size/\w10.heap.size<=gq);case h =>
     intro rest;refine an 0 9 (by kernel_rfl) rfl rfl (fun K hK=>?_) (fun K hK=>?_)
     ·skip
      go_simp;obtain⟨gE,hgE⟩:∃z,z=wd.heap.size:=⟨_,rfl⟩
      obtain⟨w41,hw41⟩:∃z:World,z=(wd.alloc (.cells #[] 47)):=⟨_,rfl⟩
      have hxE:ab wd w41:=by rw[hw41];exact (zE _).alloc _
      have HO41:Bx (ah gE 47 13 (bR w.heap.size w10) w41 (D (some ⟨gE,0,none⟩) 0 0) []):=⟨by rw[hw41,hgE];exact EI wd⟩
      have hge41:w10.heap.size<=gE/\gE<w41.heap.size:=⟨by rw[hgE];exact kS.size,by rw[hgE,hw41];simp⟩
      have k41:ab w10 w41:=kS.trans hxE;rw[<-hw41,<-hgE];clear hw41 hgE hxE;refine hK.out _ _ (fun _=>k41) ?_;clear hK K;try simp only[Act.put,List.setIfInBounds_toArray,vA,List.set_cons_succ]
      refine an 2 9 (by kernel_rfl) rfl rfl (fun K hK=>?_) (fun K hK=>?_)
      ·skip
       refine Fn (by rfl) (.tmp 97) (.tmp 98) 35 (by rfl) gE 47 iC _ 13 128 underlying35 hiC hC0 hC1 hC2 rfl (by omega) (bR w.heap.size w10) Hm (D (some ⟨gE,0,none⟩) 0 0) [] (by rfl) HO41.out w.heap.size bl ol nl cC l (by rfl) (bj.ext HC10.out.at_world (fun _ _ _ _ h _=>h) k41) hl0 (by simp;omega) (by omega) (by have:=HO41.out;have h1:=hge41.2;omega) ?_;intro g2 c2 w42 hown hg42;simp only[List.length_nil,yV,List.nil_append]at hown⊢;have HO42:=zZ hown;have k42:ab w10 w42:=k41.grown hg42 (fun k hk=>by have h1:=HO41.out.ge k hk;have h2:=hge41.1;omega);clear hown hg42;refine hK.out _ _ (fun _=>k42) ?_;clear hK K;try simp only[Act.put,List.setIfInBounds_toArray,vA,List.set_cons_succ]
       refine Cw 9 (by kernel_rfl) rfl (fun K hK=>?_);go_simp;obtain⟨gq,hgq⟩:∃z,z=w42.heap.size:=⟨_,rfl⟩
       obtain⟨w43,hw43⟩:∃z:World,z=(w42.alloc (.cells #[B C 1000000,B C 60,B C 1,B C 1,.string (ba xstr),B C xct,D xA xn xcc,B C xts,B C xtq,B C xlp,B C xlc,B C xlg,B C xlv,B C 1000000,B C 60,B C 2,B C 2,.string ⟨#[]⟩,B C 0,D none 0 0,B C 60,B C 1,B C la,B C lb,B C lc,B C ld] 47)):=⟨_,rfl⟩
       have hxF:ab w42 w43:=by rw[hw43];exact (zE _).alloc _
       obtain⟨cq,hcq⟩:∃z:Array Value,z=#[B C 1000000,B C 60,B C 1,B C 1,.string (ba xstr),B C xct,D xA xn xcc,B C xts,B C xtq,B C xlp,B C xlc,B C xlg,B C xlv,B C 1000000,B C 60,B C 2,B C 2,.string ⟨#[]⟩,B C 0,D none 0 0,B C 60,B C 1,B C la,B C lb,B C lc,B C ld]:=⟨_,rfl⟩
       have HCQ:Bx (cq.toList=[B C 1000000,B C 60,B C 1,B C 1,.string (ba xstr),B C xct,D xA xn xcc,B C xts,B C xtq,B C xlp,B C xlc,B C xlg,B C xlv]++[B C 1000000,B C 60,B C 2,B C 2,.string ⟨#[]⟩,B C 0,D none 0 0,B C 60,B C 1,B C la,B C lb,B C lc,B C ld]):=⟨by rw[hcq];rfl⟩
       rw[<-hcq]at hw43⊢;clear hcq;have HB43:Bx (Bk w43 gq cq 47):=⟨by rw[hw43,hgq];exact Bk.new _ _ _⟩
       have hqe:w10.heap.size<=gq:=by rw[hgq];exact k42.size
       have k43:ab w10 w43:=k42.trans hxF;have HO43:=zZ (HO42.out.ext hxF);rw[<-hw43,<-hgq];clear hw43 hgq hxF;refine hK.out _ _ (fun _=>k43) ?_;clear hK K;try simp only[Act.put,List.setIfInBounds_toArray,vA,List.set_cons_succ]
       have hgF:gE<=w43.heap.size:=by have h3:=HO43.out.ge g2 rfl;have:=Jv HO43.out;omega
       exact rest.out gE gq cq g2 c2 w43 ⟨⟨k43,HO43.out,HB43.out,HCQ.out,hge41.1,hgF,hqe⟩⟩
      ·skip
       go_simp;obtain⟨gq,hgq⟩:∃z,z=w41.heap.size:=⟨_,rfl⟩
       obtain⟨w44,hw44⟩:∃z:World,z=(w41.alloc (.cells #[B C 1000000,B C 60,B C 1,B C 1,.string (ba xstr),B C xct,D xA xn xcc,B C xts,B C xtq,B C xlp,B C xlc,B C xlg,B C xlv,B C 1000000,B C 60,B C 2,B C 2,.string ⟨#[]⟩,B C 0,D none 0 0,B C 60,B C 1,B C la,B C lb,B C lc,B C ld] 47)):=⟨_,rfl⟩
       have hxF:ab w41 w44:=by rw[hw44];exact (zE _).alloc _
       obtain⟨cq,hcq⟩:∃z:Array Value,z=#[B C 1000000,B C 60,B C 1,B C 1,.string (ba xstr),B C xct,D xA xn xcc,B C xts,B C xtq,B C xlp,B C xlc,B C xlg,B C xlv,B C 1000000,B C 60,B C 2,B C 2,.string ⟨#[]⟩,B C 0,D none 0 0,B C 60,B C 1,B C la,B C lb,B C lc,B C ld]:=⟨_,rfl⟩
       have HCQ:Bx (cq.toList=[B C 1000000,B C 60,B C 1,B C 1,.string (ba xstr),B C xct,D xA xn xcc,B C xts,B C xtq,B C xlp,B C xlc,B C xlg,B C xlv]++[B C 1000000,B C 60,B C 2,B C 2,.string ⟨#[]⟩,B C 0,D none 0 0,B C 60,B C 1,B C la,B C lb,B C lc,B C ld]):=⟨by rw[hcq];rfl⟩
       rw[<-hcq]at hw44⊢;clear hcq;have HB44:Bx (Bk w44 gq cq 47):=⟨by rw[hw44,hgq];exact Bk.new _ _ _⟩
       have hqe:w10.heap.size<=gq:=by rw[hgq];exact k41.size
       have k44:ab w10 w44:=k41.trans hxF;have HO44:=zZ (HO41.out.ext hxF);have hqg:gE<gq:=by rw[hgq];exact hge41.2
       have hge44:w10.heap.size<=gE/\gE<w44.heap.size:=⟨hge41.1,zB hge41.2 hxF.size⟩
       rw[<-hw44,<-hgq];clear hw44 hgq hxF;refine hK.out _ _ (fun _=>k44) ?_;clear hK K;try simp only[Act.put,List.setIfInBounds_toArray,vA,List.set_cons_succ]
       refine Cw 2 (by kernel_rfl) rfl (fun K hK=>?_);refine Fn (by rfl) (.tmp 97) (.tmp 98) 35 (by rfl) gE 47 iC _ 13 128 underlying35 hiC hC0 hC1 hC2 rfl (by omega) (bR w.heap.size w10) Hm (D (some ⟨gE,0,none⟩) 0 0) [] (by rfl) HO44.out w.heap.size bl ol nl cC l (by rfl) (bj.ext HC10.out.at_world (fun _ _ _ _ h _=>h) k44) hl0 (by simp;omega) (by omega) (by have:=HO44.out;have h1:=hge44.2;omega) ?_;intro g2 c2 w45 hown hg45;simp only[List.length_nil,yV,List.nil_append]at hown⊢;have HO45:=zZ hown;have k45:ab w10 w45:=k44.grown hg45 (fun k hk=>by have h1:=HO44.out.ge k hk;have h2:=hge44.1;omega);have HB45:Bx (Bk w45 gq cq 47):=⟨HB44.out.grown hg45 (by simp only[Value.ownBlock];intro h;injection h with h;first|omega|(subst h;omega))⟩
       clear hown hg45;refine hK.out _ _ (fun _=>k45) ?_;clear hK K;try simp only[Act.put,List.setIfInBounds_toArray,vA,List.set_cons_succ]
       have hgF:gE<=w45.heap.size:=by have h3:=HO45.out.ge g2 rfl;have:=Jv HO45.out;omega
       exact rest.out gE gq cq g2 c2 w45 ⟨⟨k45,HO45.out,HB45.out,HCQ.out,hge44.1,hgF,hqe⟩⟩
     ·skip
      go_simp;obtain⟨gq,hgq⟩:∃z,z=wd.heap.size:=⟨_,rfl⟩
      obtain⟨w46,hw46⟩:∃z:World,z=(wd.alloc (.cells #[B C 1000000,B C 60,B C 1,B C 1,.string (ba xstr),B C xct,D xA xn xcc,B C xts,B C xtq,B C xlp,B C xlc,B C xlg,B C xlv,B C 1000000,B C 60,B C 2,B C 2,.string ⟨#[]⟩,B C 0,D none 0 0,B C 60,B C 1,B C la,B C lb,B C lc,B C ld] 47)):=⟨_,rfl⟩
      have hxF:ab wd w46:=by rw[hw46];exact (zE _).alloc _
      obtain⟨cq,hcq⟩:∃z:Array Value,z=#[B C 1000000,B C 60,B C 1,B C 1,.string (ba xstr),B C xct,D xA xn xcc,B C xts,B C xtq,B C xlp,B C xlc,B C xlg,B C xlv,B C 1000000,B C 60,B C 2,B C 2,.string ⟨#[]⟩,B C 0,D none 0 0,B C 60,B C 1,B C la,B C lb,B C lc,B C ld]:=⟨_,rfl⟩
      have HCQ:Bx (cq.toList=[B C 1000000,B C 60,B C 1,B C 1,.string (ba xstr),B C xct,D xA xn xcc,B C xts,B C xtq,B C xlp,B C xlc,B C xlg,B C xlv]++[B C 1000000,B C 60,B C 2,B C 2,.string ⟨#[]⟩,B C 0,D none 0 0,B C 60,B C 1,B C la,B C lb,B C lc,B C ld]):=⟨by rw[hcq];rfl⟩
      rw[<-hcq]at hw46⊢;clear hcq;have HB46:Bx (Bk w46 gq cq 47):=⟨by rw[hw46,hgq];exact Bk.new _ _ _⟩
      have hqe:w10.heap.size<=gq:=by rw[hgq];exact kS.size
      have k46:ab w10 w46:=kS.trans hxF;rw[<-hw46,<-hgq];clear hw46 hgq hxF;refine hK.out _ _ (fun _=>k46) ?_;clear hK K;try simp only[Act.put,List.setIfInBounds_toArray,vA,List.set_cons_succ]
      refine Cw 0 (by kernel_rfl) rfl (fun K hK=>?_);go_simp;obtain⟨gE,hgE⟩:∃z,z=w46.heap.size:=⟨_,rfl⟩
      obtain⟨w47,hw47⟩:∃z:World,z=(w46.alloc (.cells #[] 47)):=⟨_,rfl⟩
      have hxE:ab w46 w47:=by rw[hw47];exact (zE _).alloc _
      have HO47:Bx (ah gE 47 13 (bR w.heap.size w10) w47 (D (some ⟨gE,0,none⟩) 0 0) []):=⟨by rw[hw47,hgE];exact EI w46⟩
      have hge47:w10.heap.size<=gE/\gE<w47.heap.size:=⟨by rw[hgE];exact k46.size,by rw[hgE,hw47];simp⟩
      have k47:ab w10 w47:=k46.trans hxE;have hqg:gq<gE:=by rw[hgE];exact HB46.out.lt
      have HB47:Bx (Bk w47 gq cq 47):=⟨HB46.out.ext hxE⟩
      rw[<-hw47,<-hgE];clear hw47 hgE hxE;refine hK.out _ _ (fun _=>k47) ?_;clear hK K;try simp only[Act.put,List.setIfInBounds_toArray,vA,List.set_cons_succ]
      refine Cw 2 (by kernel_rfl) rfl (fun K hK=>?_);refine Fn (by rfl) (.tmp 97) (.tmp 98) 35 (by rfl) gE 47 iC _ 13 128 underlying35 hiC hC0 hC1 hC2 rfl (by omega) (bR w.heap.size w10) Hm (D (some ⟨gE,0,none⟩) 0 0) [] (by rfl) HO47.out w.heap.size bl ol nl cC l (by rfl) (bj.ext HC10.out.at_world (fun _ _ _ _ h _=>h) k47) hl0 (by simp;omega) (by omega) (by have:=HO47.out;have h1:=hge47.2;omega) ?_;intro g2 c2 w48 hown hg48;simp only[List.length_nil,yV,List.nil_append]at hown⊢;have HO48:=zZ hown;have k48:ab w10 w48:=k47.grown hg48 (fun k hk=>by have h1:=HO47.out.ge k hk;have h2:=hge47.1;omega);have HB48:Bx (Bk w48 gq cq 47):=⟨HB47.out.grown hg48 (by simp only[Value.ownBlock];intro h;injection h with h;first|omega|(subst h;omega))⟩
      clear hown hg48;refine hK.out _ _ (fun _=>k48) ?_;clear hK K;try simp only[Act.put,List.setIfInBounds_toArray,vA,List.set_cons_succ]
      have hgF:gE<=w48.heap.size:=by have h3:=HO48.out.ge g2 rfl;have:=Jv HO48.out;omega
      exact rest.out gE gq cq g2 c2 w48 ⟨⟨k48,HO48.out,HB48.out,HCQ.out,hge47.1,hgF,hqe⟩⟩
    case r =>
     intro gE gq cq g2 c2 w40 HJ;have k40:=HJ.out.1;have hgF:=HJ.out.2.2.2.2.2.1;have hqe:=HJ.out.2.2.2.2.2.2;have hge:=HJ.out.2.2.2.2.1;have HO40:=zZ HJ.out.2.1;have HB40:=zZ HJ.out.2.2.1;have HCQ:=zZ HJ.out.2.2.2.1;clear HJ;refine Cw 10 (by kernel_rfl) rfl (fun K hK=>?_);refine Fn (by rfl) (.tmp 99) (.tmp 106) 35 (by rfl) gE 47 iC _ 13 128 underlying35 hiC hC0 hC1 hC2 rfl (by omega) (bR w.heap.size w10) Hm (D (some ⟨g2,0,none⟩) nl c2) l (by rfl) HO40.out w.heap.size gq 0 2 2 [(Md ⟨⟨xt,ps,pq⟩,1,xstr,xct,xch,⟨xts,xtq⟩,⟨xlp,xlc,xlg,xlv⟩⟩),(Me ⟨la,lb,lc,ld⟩)] (by rfl) (bj.lit2 HB40.out HCQ.out rfl rfl (by have:=HB40.out.lt;have:=hqe;omega) ⟨_,rfl,HIX.out.ext HX10.out,HCW.out.1⟩ ⟨_,rfl,ak.nil _ _,HCW.out.2⟩) (by omega) (by have:=HLN.out;omega) (by omega) hgF ?_;intro g3 c3 w44 hown3 hg44;have k44:ab w10 w44:=k40.grown hg44 (fun k hk=>by have h1:=HO40.out.ge k hk;have h2:=(yJ hge True.intro).1;omega);have hM:=hown3.isS (p:=w.heap.size) (by decide) (by have:=(yJ hge True.intro).1;omega) (fun cs y h=>bR.stab _ _ _ cs y h k44.xt);rw[<-HLN.out]at hM⊢;have HM44:Bx (au w.heap.size w44 (D (some ⟨g3,0,none⟩) (nl+2) c3) (l++[(Md ⟨⟨xt,ps,pq⟩,1,xstr,xct,xch,⟨xts,xtq⟩,⟨xlp,xlc,xlg,xlv⟩⟩),(Me ⟨la,lb,lc,ld⟩)])):=⟨hM⟩
     clear hown3 hg44 hM;refine hK.out _ _ (fun _=>k44) ?_;clear hK K;try simp only[Act.put,List.setIfInBounds_toArray,vA,List.set_cons_succ]
     refine Cw 11 (by kernel_rfl) rfl (fun K hK=>?_);go_simp;refine hK.out _ _ (fun _=>k44) ?_;clear hK K;try simp only[Act.put,List.setIfInBounds_toArray,vA,List.set_cons_succ]
     refine zc (by kernel_rfl) ?_ _;go_wp2_with fail;go_meet
     exact⟨g3,c3,rfl,⟨k44,HM44.out⟩⟩
   case rest =>
   obtain⟨g3,c3,rfl,HW11⟩:=hcut;obtain⟨w11,rfl⟩:∃z,z=wc:=⟨_,rfl⟩
   clear hiC hC0 hC1 hC2 b0 b1 b2 b3 e0 e1 e2 e3 e4 e5 e6 e7 e8 e9 e10 e11 e12;have HF11:Bx (LF w.heap.size w1 w11 [(gS,#[B C s.num,D AP nP cP,D AB nB cB,D AX nX cX],27),(gI,#[D AS ns cS,D (some ⟨bg,og,none⟩) ng cG],59)]):=⟨HF10.out.ext HW11.out.1⟩
   have HS11:Bx (aR w.heap.size w11 (.agg #[B C s.num,D AP nP cP,D AB nB cB,D AX nX cX]) s):=⟨HS6.out.ext (HX10.out.trans HW11.out.1)⟩
   have HR11:Bx (aA w6 w11 [(gp,#[B C pc,B C pg,B C pt,D pA pm pcc,B C ps,B C pq],72),(gC,#[B C 1000000,B C 60,B C 1,B C 1,.string (ba xstr),B C xct,D xA xn xcc,B C xts,B C xtq,B C xlp,B C xlc,B C xlg,B C xlv],47),(gs,#[B C ps,B C pq,B C 1,B C la,B C lb,B C lc,B C ld],67)]):=⟨HR10.out.ext HW11.out.1⟩
   clear HF10 HC10 HR10;go_upto_region 20 with (fail)
   have z0:=(HF11.out.at_ 0 rfl).cell (i:=0) rfl;have z1:=(HF11.out.at_ 0 rfl).cell (i:=1) rfl;have z2:=(HF11.out.at_ 0 rfl).cell (i:=2) rfl;have z3:=(HF11.out.at_ 0 rfl).cell (i:=3) rfl;go_wp2_with fail;refine (aW _ _ s (l++[(Md ⟨⟨xt,ps,pq⟩,1,xstr,xct,xch,⟨xts,xtq⟩,⟨xlp,xlc,xlg,xlv⟩⟩),(Me ⟨la,lb,lc,ld⟩)]) _ HF11.out.lt HF11.out.tb HS11.out HW11.out.2 (by rw[yU,<-HLN.out];show nl+2<=300;omega)).mono ?_;rintro e wb ⟨⟨vI,rfl,hI⟩,hxs⟩;rw[show rM s (l++[(Md ⟨⟨xt,ps,pq⟩,1,xstr,xct,xch,⟨xts,xtq⟩,⟨xlp,xlc,xlg,xlv⟩⟩),(Me ⟨la,lb,lc,ld⟩)])=t2 from by rw[HT2.out];exact if_pos HCK.out]at hI;rw[HCK.out];obtain⟨BS,dS,BG,dG,rfl⟩:=hI.op;rw[<-HM2.out.1,HM2.out.2.2]at hI⊢;obtain⟨gJ,hgJ⟩:∃z,z=wb.heap.size:=⟨_,rfl⟩
   obtain⟨w12,hw12⟩:∃z:World,z=(wb.alloc (.cells #[D BS m2 dS,D BG ng dG] 59)):=⟨_,rfl⟩
   have hx12:ab w11 w12:=by rw[hw12];exact hxs.alloc _
   have HF12:Bx (LF w.heap.size w1 w12 [(gS,#[B C s.num,D AP nP cP,D AB nB cB,D AX nX cX],27),(gI,#[D AS ns cS,D (some ⟨bg,og,none⟩) ng cG],59),(gJ,#[D BS m2 dS,D BG ng dG],59)]):=⟨by rw[hw12];exact (HF11.out.ext hxs).push _ _ hgJ.symm⟩
   have HI12:Bx (aK w.heap.size w12 (.agg #[D BS m2 dS,D BG ng dG]) t2):=⟨by rw[hw12];exact hI.ext ((zE _).alloc _)⟩
   have HR12:Bx (aA w6 w12 [(gp,#[B C pc,B C pg,B C pt,D pA pm pcc,B C ps,B C pq],72),(gC,#[B C 1000000,B C 60,B C 1,B C 1,.string (ba xstr),B C xct,D xA xn xcc,B C xts,B C xtq,B C xlp,B C xlc,B C xlg,B C xlv],47),(gs,#[B C ps,B C pq,B C 1,B C la,B C lb,B C lc,B C ld],67)]):=⟨HR11.out.ext hx12⟩
   go_upto_region 21 with (fail)
   rw[<-hw12,<-hgJ];clear hw12 hgJ hI hxs hx12 HF11 HS11 HR11 HW11 z0 z1 z2 z3;have i0:=(HF12.out.at_ 2 rfl).cell (i:=0) rfl;have i1:=(HF12.out.at_ 2 rfl).cell (i:=1) rfl;have e0:=(HR12.out.at_ 1 rfl).cell (i:=0) rfl;have e1:=(HR12.out.at_ 1 rfl).cell (i:=1) rfl;have e2:=(HR12.out.at_ 1 rfl).cell (i:=2) rfl;have e3:=(HR12.out.at_ 1 rfl).cell (i:=3) rfl;have e4:=(HR12.out.at_ 1 rfl).cell (i:=4) rfl;have e5:=(HR12.out.at_ 1 rfl).cell (i:=5) rfl;have e6:=(HR12.out.at_ 1 rfl).cell (i:=6) rfl;have e7:=(HR12.out.at_ 1 rfl).cell (i:=7) rfl;have e8:=(HR12.out.at_ 1 rfl).cell (i:=8) rfl;have e9:=(HR12.out.at_ 1 rfl).cell (i:=9) rfl;have e10:=(HR12.out.at_ 1 rfl).cell (i:=10) rfl;have e11:=(HR12.out.at_ 1 rfl).cell (i:=11) rfl;have e12:=(HR12.out.at_ 1 rfl).cell (i:=12) rfl;go_cut [20,21] (fun s20 s21 wx=>∃gy,s20=.pointer (some ⟨gy,0,none⟩)/\s21=.bool true/\Bx (aA w12 wx [(gy,#[B C 60,B C 1,B C 2,B C la,B C lb,B C lc,B C ld],67)]))
   case first =>
    refine px 99 (fun w'=>ab w12 w') (by kernel_rfl) ?_;have kS:ab w12 w12.drew:=(zE _).drew;obtain⟨wd,hwd⟩:∃z:World,z=w12.drew:=⟨_,rfl⟩
    rw[<-hwd]at kS⊢;clear hwd;have HF30:Bx (aA w12 wd []):=⟨(aA.start w12).ext kS⟩
    refine ur 2 [(0,115),(1,116)] rfl (by kernel_rfl) (by kernel_rfl) (fun _ _ _ _ _ h=>h) kS ?_;iterate 2 (apply Ff;(case ho=>exact rfl);(case hw=>exact rfl);(case hy=>((intro wk hk);(try dsimp only at hk);(replace i0:=hk.cell i0);(replace i1:=hk.cell i1);(replace e0:=hk.cell e0);(replace e1:=hk.cell e1);(replace e2:=hk.cell e2);(replace e3:=hk.cell e3);(replace e4:=hk.cell e4);(replace e5:=hk.cell e5);(replace e6:=hk.cell e6);(replace e7:=hk.cell e7);(replace e8:=hk.cell e8);(replace e9:=hk.cell e9);(replace e10:=hk.cell e10);(replace e11:=hk.cell e11);(replace e12:=hk.cell e12);go_simp;try with_reducible rfl));(case hput=>(simp only[Act.put,List.setIfInBounds_toArray,List.set_cons_zero,List.set_cons_succ];exact rfl)))
    refine Lh ?_;apply Mo (Q:=fun gy W=>aA w12 W [(gy,#[B C 0,B C 0,B C 0,B C 0,B C 0,B C 0,B C 0],67)]);case h =>
     intro rest;refine an 2 7 (by kernel_rfl) rfl rfl (fun K hK=>?_) (fun K hK=>?_)
     ·skip
      go_simp;refine (dN _ _ _ _ _ _ _ _ _ _ _ _ _ _ _ _).mono ?_;rintro e w31 ⟨rfl,hx⟩;have HF31:Bx (aA w12 w31 []):=⟨HF30.out.ext hx⟩
      clear hx;have k31:=HF31.out.xt;refine hK.out _ _ (fun _=>k31) ?_;clear hK K;try simp only[Act.put,List.setIfInBounds_toArray,vA,List.set_cons_succ]
      refine an 3 7 (by kernel_rfl) rfl rfl (fun K hK=>?_) (fun K hK=>?_)
      ·skip
       go_simp;refine (HST2.out _ _ (HI12.out.ext HF31.out.xt)).mono ?_;rintro e w32 ⟨rfl,hx⟩;have HF32:Bx (aA w12 w32 []):=⟨HF31.out.ext hx⟩
       clear hx;have k32:=HF32.out.xt;refine hK.out _ _ (fun _=>k32) ?_;clear hK K;try simp only[Act.put,List.setIfInBounds_toArray,vA,List.set_cons_succ]
       refine ur 3 [(4,114),(5,119),(6,120)] rfl (by kernel_rfl) (by kernel_rfl) (fun _ _ _ _ _ h=>h) k32 ?_;iterate 3 (apply Ff;(case ho=>exact rfl);(case hw=>exact rfl);(case hy=>((intro wk hk);(try dsimp only at hk);(replace i0:=hk.cell i0);(replace i1:=hk.cell i1);(replace e0:=hk.cell e0);(replace e1:=hk.cell e1);(replace e2:=hk.cell e2);(replace e3:=hk.cell e3);(replace e4:=hk.cell e4);(replace e5:=hk.cell e5);(replace e6:=hk.cell e6);(replace e7:=hk.cell e7);(replace e8:=hk.cell e8);(replace e9:=hk.cell e9);(replace e10:=hk.cell e10);(replace e11:=hk.cell e11);(replace e12:=hk.cell e12);go_simp;try with_reducible rfl));(case hput=>(simp only[Act.put,List.setIfInBounds_toArray,List.set_cons_zero,List.set_cons_succ];exact rfl)))
       refine Lh ?_;refine Cw 7 (by kernel_rfl) rfl (fun K hK=>?_);go_simp;obtain⟨gy,hg⟩:∃z,z=w32.heap.size:=⟨_,rfl⟩
       obtain⟨w33,hw33⟩:∃z:World,z=(w32.alloc (.cells #[B C 0,B C 0,B C 0,B C 0,B C 0,B C 0,B C 0] 67)):=⟨_,rfl⟩
       have HF33:Bx (aA w12 w33 [(gy,#[B C 0,B C 0,B C 0,B C 0,B C 0,B C 0,B C 0],67)]):=⟨by rw[hw33];exact HF32.out.push _ _ hg.symm⟩
       rw[<-hw33,<-hg];clear hw33 hg;have k33:=HF33.out.xt;refine hK.out _ _ (fun _=>k33) ?_;clear hK K;try simp only[Act.put,List.setIfInBounds_toArray,vA,List.set_cons_succ]
       exact rest.out gy w33 ⟨HF33.out⟩
      ·skip
       go_simp;obtain⟨gy,hg⟩:∃z,z=w31.heap.size:=⟨_,rfl⟩
       obtain⟨w34,hw34⟩:∃z:World,z=(w31.alloc (.cells #[B C 0,B C 0,B C 0,B C 0,B C 0,B C 0,B C 0] 67)):=⟨_,rfl⟩
       have HF34:Bx (aA w12 w34 [(gy,#[B C 0,B C 0,B C 0,B C 0,B C 0,B C 0,B C 0],67)]):=⟨by rw[hw34];exact HF31.out.push _ _ hg.symm⟩
       rw[<-hw34,<-hg];clear hw34 hg;have k34:=HF34.out.xt;refine hK.out _ _ (fun _=>k34) ?_;clear hK K;try simp only[Act.put,List.setIfInBounds_toArray,vA,List.set_cons_succ]
       refine Cw 3 (by kernel_rfl) rfl (fun K hK=>?_);go_simp;refine (HST2.out _ _ (HI12.out.ext HF34.out.xt)).mono ?_;rintro e w35 ⟨rfl,hx⟩;have HF35:Bx (aA w12 w35 [(gy,#[B C 0,B C 0,B C 0,B C 0,B C 0,B C 0,B C 0],67)]):=⟨HF34.out.ext hx⟩
       clear hx;have k35:=HF35.out.xt;refine hK.out _ _ (fun _=>k35) ?_;clear hK K;try simp only[Act.put,List.setIfInBounds_toArray,vA,List.set_cons_succ]
       refine ur 3 [(4,114),(5,119),(6,120)] rfl (by kernel_rfl) (by kernel_rfl) (fun _ _ _ _ _ h=>h) k35 ?_;iterate 3 (apply Ff;(case ho=>exact rfl);(case hw=>exact rfl);(case hy=>((intro wk hk);(try dsimp only at hk);(replace i0:=hk.cell i0);(replace i1:=hk.cell i1);(replace e0:=hk.cell e0);(replace e1:=hk.cell e1);(replace e2:=hk.cell e2);(replace e3:=hk.cell e3);(replace e4:=hk.cell e4);(replace e5:=hk.cell e5);(replace e6:=hk.cell e6);(replace e7:=hk.cell e7);(replace e8:=hk.cell e8);(replace e9:=hk.cell e9);(replace e10:=hk.cell e10);(replace e11:=hk.cell e11);(replace e12:=hk.cell e12);go_simp;try with_reducible rfl));(case hput=>(simp only[Act.put,List.setIfInBounds_toArray,List.set_cons_zero,List.set_cons_succ];exact rfl)))
       refine Lh ?_;exact rest.out gy w35 ⟨HF35.out⟩
     ·skip
      go_simp;obtain⟨gy,hg⟩:∃z,z=wd.heap.size:=⟨_,rfl⟩
      obtain⟨w36,hw36⟩:∃z:World,z=(wd.alloc (.cells #[B C 0,B C 0,B C 0,B C 0,B C 0,B C 0,B C 0] 67)):=⟨_,rfl⟩
      have HF36:Bx (aA w12 w36 [(gy,#[B C 0,B C 0,B C 0,B C 0,B C 0,B C 0,B C 0],67)]):=⟨by rw[hw36];exact HF30.out.push _ _ hg.symm⟩
      rw[<-hw36,<-hg];clear hw36 hg;have k36:=HF36.out.xt;refine hK.out _ _ (fun _=>k36) ?_;clear hK K;try simp only[Act.put,List.setIfInBounds_toArray,vA,List.set_cons_succ]
      refine Cw 2 (by kernel_rfl) rfl (fun K hK=>?_);go_simp;refine (dN _ _ _ _ _ _ _ _ _ _ _ _ _ _ _ _).mono ?_;rintro e w37 ⟨rfl,hx⟩;have HF37:Bx (aA w12 w37 [(gy,#[B C 0,B C 0,B C 0,B C 0,B C 0,B C 0,B C 0],67)]):=⟨HF36.out.ext hx⟩
      clear hx;have k37:=HF37.out.xt;refine hK.out _ _ (fun _=>k37) ?_;clear hK K;try simp only[Act.put,List.setIfInBounds_toArray,vA,List.set_cons_succ]
      refine Cw 3 (by kernel_rfl) rfl (fun K hK=>?_);go_simp;refine (HST2.out _ _ (HI12.out.ext HF37.out.xt)).mono ?_;rintro e w38 ⟨rfl,hx⟩;have HF38:Bx (aA w12 w38 [(gy,#[B C 0,B C 0,B C 0,B C 0,B C 0,B C 0,B C 0],67)]):=⟨HF37.out.ext hx⟩
      clear hx;have k38:=HF38.out.xt;refine hK.out _ _ (fun _=>k38) ?_;clear hK K;try simp only[Act.put,List.setIfInBounds_toArray,vA,List.set_cons_succ]
      refine ur 3 [(4,114),(5,119),(6,120)] rfl (by kernel_rfl) (by kernel_rfl) (fun _ _ _ _ _ h=>h) k38 ?_;iterate 3 (apply Ff;(case ho=>exact rfl);(case hw=>exact rfl);(case hy=>((intro wk hk);(try dsimp only at hk);(replace i0:=hk.cell i0);(replace i1:=hk.cell i1);(replace e0:=hk.cell e0);(replace e1:=hk.cell e1);(replace e2:=hk.cell e2);(replace e3:=hk.cell e3);(replace e4:=hk.cell e4);(replace e5:=hk.cell e5);(replace e6:=hk.cell e6);(replace e7:=hk.cell e7);(replace e8:=hk.cell e8);(replace e9:=hk.cell e9);(replace e10:=hk.cell e10);(replace e11:=hk.cell e11);(replace e12:=hk.cell e12);go_simp;try with_reducible rfl));(case hput=>(simp only[Act.put,List.setIfInBounds_toArray,List.set_cons_zero,List.set_cons_succ];exact rfl)))
      refine Lh ?_;exact rest.out gy w38 ⟨HF38.out⟩
    case r =>
     intro gy wj HFj;have kj:=HFj.out.xt;refine Cw 8 (by kernel_rfl) rfl (fun K hK=>?_);refine aD (by rfl) (Mj rfl rfl rfl (HFj.out.at_ 0 rfl) rfl) ?_;have hR:=HFj.out.setAll 0 rfl [B C 60,B C 1,B C 2,B C la,B C lb,B C lc,B C ld] rfl;have kR:=hR.xt;refine hK.out _ _ (fun _=>kR) ?_;clear hK K;try simp only[Act.put,List.setIfInBounds_toArray,vA,List.set_cons_succ]
     refine Cw 9 (by kernel_rfl) rfl (fun K hK=>?_);go_simp;refine hK.out _ _ (fun _=>kR) ?_;clear hK K;try simp only[Act.put,List.setIfInBounds_toArray,vA,List.set_cons_succ]
     refine zc (by kernel_rfl) ?_ _;go_wp2_with fail;go_meet
     exact⟨gy,rfl,rfl,⟨hR⟩⟩
   case rest =>
   obtain⟨gy,rfl,rfl,HY2⟩:=hcut;obtain⟨w13,rfl⟩:∃z,z=wc:=⟨_,rfl⟩
   clear i0 i1 e0 e1 e2 e3 e4 e5 e6 e7 e8 e9 e10 e11 e12;have HF13:Bx (LF w.heap.size w1 w13 [(gS,#[B C s.num,D AP nP cP,D AB nB cB,D AX nX cX],27),(gI,#[D AS ns cS,D (some ⟨bg,og,none⟩) ng cG],59),(gJ,#[D BS m2 dS,D BG ng dG],59)]):=⟨HF12.out.ext HY2.out.xt⟩
   have HI13:Bx (aK w.heap.size w13 (.agg #[D BS m2 dS,D BG ng dG]) t2):=⟨HI12.out.ext HY2.out.xt⟩
   have HR13:Bx (aA w6 w13 [(gp,#[B C pc,B C pg,B C pt,D pA pm pcc,B C ps,B C pq],72),(gC,#[B C 1000000,B C 60,B C 1,B C 1,.string (ba xstr),B C xct,D xA xn xcc,B C xts,B C xtq,B C xlp,B C xlc,B C xlg,B C xlv],47),(gs,#[B C ps,B C pq,B C 1,B C la,B C lb,B C lc,B C ld],67)]):=⟨HR12.out.ext HY2.out.xt⟩
   clear HF12 HI12 HR12 HST2;have HSS:Bx (rA w.heap.size w13 (D BS m2 dS) t2.sts):=⟨by obtain⟨_,_,e,h,-⟩:=HI13.out;obtain⟨rfl,-⟩:=Kw e;exact h⟩
   have HGG:Bx (Ce w.heap.size w13 (D BG ng dG) t2.pgs):=⟨by obtain⟨_,_,e,-,h⟩:=HI13.out;obtain⟨-,rfl⟩:=Kw e;exact h⟩
   have hm2b:m2<=9223372036854775807:=by obtain⟨_,_,_,e9,-,-,h9,-⟩:=HSS.out.open_;cases e9;exact h9
   have d0:=(HR13.out.at_ 2 rfl).cell (i:=0) rfl;have d1:=(HR13.out.at_ 2 rfl).cell (i:=1) rfl;have d2:=(HR13.out.at_ 2 rfl).cell (i:=2) rfl;have d3:=(HR13.out.at_ 2 rfl).cell (i:=3) rfl;have d4:=(HR13.out.at_ 2 rfl).cell (i:=4) rfl;have d5:=(HR13.out.at_ 2 rfl).cell (i:=5) rfl;have d6:=(HR13.out.at_ 2 rfl).cell (i:=6) rfl;have f0:=(HY2.out.at_ 0 rfl).cell (i:=0) rfl;have f1:=(HY2.out.at_ 0 rfl).cell (i:=1) rfl;have f2:=(HY2.out.at_ 0 rfl).cell (i:=2) rfl;have f3:=(HY2.out.at_ 0 rfl).cell (i:=3) rfl;have f4:=(HY2.out.at_ 0 rfl).cell (i:=4) rfl;have f5:=(HY2.out.at_ 0 rfl).cell (i:=5) rfl;have f6:=(HY2.out.at_ 0 rfl).cell (i:=6) rfl;have i0:=(HF13.out.at_ 1 rfl).cell (i:=0) rfl;have j0:=(HF13.out.at_ 2 rfl).cell (i:=0) rfl;have hadd:IntKind.i64.wrap ((ns:Int)+1)=(m2:Int):=by rw[yN _ (by have:=HM2.out.2.1;omega)];have:=HM2.out.2.1;omega
   have eL:=fun W=>ox la lb lc ld la lb lc ld W;rw[decide_eq_true ⟨rfl,rfl,rfl,rfl⟩]at eL;have gL':=ij;have gI':=fC;obtain⟨iS,hiS,hS0,hS1,hS2⟩:=info_parts Tryz.infoSst;obtain⟨Q,hQ⟩:∃f:dF->Bool,f=fun x=>!decide (x.scan=⟨60,1⟩):=⟨_,rfl⟩
   have HQF:Bx (t2.sts.filter Q=t.sts/\∀x:dF,Q x=!decide (x.scan=⟨60,1⟩)):=⟨by rw[hQ];exact HFL.out,fun x=>by rw[hQ]⟩
   clear hQ;go_wp2_with fail;clear eL gL' hadd d0 d1 d2 d3 d4 d5 d6 f0 f1 f2 f3 f4 f5 f6;go_loopw [22,23] (fun s22 s23 wr=>∃k:Nat,s23=B C k/\k<=m2/\Bx (ah w13.heap.size 67 7 (cU w) wr s22 ((t2.sts.take k).filter Q)/\ab w13 wr)) (fun _ s23 _=>m2-(intOf s23).toNat)
   case atStart=>exact⟨0,rfl,by omega,⟨ah.nil,zE _⟩⟩
   case round =>
    obtain⟨k,rfl,hk,HR⟩:=hrel;clear i0 j0;have j0:=((HF13.out.at_ 2 rfl).ext HR.out.2).cell (i:=0) rfl;by_cases hkm:k<m2
    ·obtain⟨b,off,_,_,rfl,-⟩:=HSS.out.at_ hkm;obtain⟨cs,⟨⟨ys,yq⟩,yt,⟨ya,yb,yc,yd⟩⟩,-,hc0,⟨hcs,hyw⟩,HY⟩:=(HSS.out.ext (cU.stab _) HR.out.2).cell_ hkm;have y0:=hc0 0 (B C ys) (by rw[hcs];rfl);have y1:=hc0 1 (B C yq) (by rw[hcs];rfl);have y2:=hc0 2 (B C yt) (by rw[hcs];rfl);have y3:=hc0 3 (B C ya) (by rw[hcs];rfl);have y4:=hc0 4 (B C yb) (by rw[hcs];rfl);have y5:=hc0 5 (B C yc) (by rw[hcs];rfl);have y6:=hc0 6 (B C yd) (by rw[hcs];rfl);rw[yQ]at y0;clear hc0 hcs;have HYW:=zZ hyw;clear hyw;have HTK:Bx (t2.sts.take (k+1)=t2.sts.take k++[⟨⟨ys,yq⟩,yt,⟨ya,yb,yc,yd⟩⟩]):=⟨by rw[List.take_add_one,HY.out];rfl⟩
     obtain⟨e0,e1,e2,e3,e4,e5,e6,e7,e8,e9,e10,e11,e12⟩:=((HR13.out.ext HR.out.2).at_ 1 rfl).p13 rfl;go_upto_block 3 with (fail)
     go_cut [22] (fun s22 wx=>Bx (ah w13.heap.size 67 7 (cU w) wx s22 ((t2.sts.take (k+1)).filter Q)/\ab w13 wx))
     case first =>
      by_cases hid:ys=60/\yq=1
      ·obtain⟨rfl,rfl⟩:=hid;have eI:=fun W=>jW 60 1 60 1 W;rw[decide_eq_true ⟨rfl,rfl⟩]at eI;have HTF:Bx ((t2.sts.take (k+1)).filter Q=(t2.sts.take k).filter Q):=⟨by rw[HTK.out,xM,uB (by rw[HQF.out.2];simp),List.filter_nil,xN]⟩
       go_upto_region 28 with (fail)
       refine px 99 (fun w'=>ab wr w') (by kernel_rfl) ?_;have kS:ab wr wr.drew:=(zE _).drew;obtain⟨wd,hwd⟩:∃z:World,z=wr.drew:=⟨_,rfl⟩
       rw[<-hwd]at kS⊢;clear hwd;refine ur 7 [(0,156),(1,157),(2,158),(3,159),(4,160),(5,161),(6,162)] rfl (by kernel_rfl) (by kernel_rfl) (fun _ _ _ _ _ h=>h) kS ?_;iterate 7 (apply Ff;(case ho=>exact rfl);(case hw=>exact rfl);(case hy=>((intro wk hk);(try dsimp only at hk);(replace j0:=hk.cell j0);(replace y0:=hk.cell y0);(replace y1:=hk.cell y1);(replace e0:=hk.cell e0);(replace e1:=hk.cell e1);(replace e2:=hk.cell e2);(replace e3:=hk.cell e3);(replace e4:=hk.cell e4);(replace e5:=hk.cell e5);(replace e6:=hk.cell e6);(replace e7:=hk.cell e7);(replace e8:=hk.cell e8);(replace e9:=hk.cell e9);(replace e10:=hk.cell e10);(replace e11:=hk.cell e11);(replace e12:=hk.cell e12);go_simp;try with_reducible rfl));(case hput=>(simp only[Act.put,List.setIfInBounds_toArray,List.set_cons_zero,List.set_cons_succ];exact rfl)))
       refine Lh ?_;refine Cw 7 (by kernel_rfl) rfl (fun K hK=>?_);go_simp;refine (dN _ _ _ _ _ _ _ _ _ _ _ _ _ _ _ _).mono ?_;rintro e wb ⟨rfl,hx⟩;have kS2:ab wr wb:=kS.trans hx;refine hK.out _ _ (fun _=>kS2) ?_;clear hK K;try simp only[Act.put,List.setIfInBounds_toArray,vA,List.set_cons_succ]
       refine ur 1 [(8,164)] rfl (by kernel_rfl) (by kernel_rfl) (fun _ _ _ _ _ h=>h) kS2 ?_;(apply Ff;(case ho=>exact rfl);(case hw=>exact rfl);(case hy=>((intro wk hk);(try dsimp only at hk);(replace j0:=hk.cell j0);(replace y0:=hk.cell y0);(replace y1:=hk.cell y1);(replace e0:=hk.cell e0);(replace e1:=hk.cell e1);(replace e2:=hk.cell e2);(replace e3:=hk.cell e3);(replace e4:=hk.cell e4);(replace e5:=hk.cell e5);(replace e6:=hk.cell e6);(replace e7:=hk.cell e7);(replace e8:=hk.cell e8);(replace e9:=hk.cell e9);(replace e10:=hk.cell e10);(replace e11:=hk.cell e11);(replace e12:=hk.cell e12);go_simp;try with_reducible rfl));(case hput=>(simp only[Act.put,List.setIfInBounds_toArray,List.set_cons_zero,List.set_cons_succ];exact rfl)));refine Lh ?_;refine zc (by kernel_rfl) ?_ _;have HR2:Bx (ah w13.heap.size 67 7 (cU w) wb u22 ((t2.sts.take (k+1)).filter Q)/\ab w13 wb):=⟨by rw[HTF.out];exact HR.out.1.ext kS2,HR.out.2.trans kS2⟩
       clear kS kS2 hx eI j0 y0 y1 y2 y3 y4 y5 y6 e0 e1 e2 e3 e4 e5 e6 e7 e8 e9 e10 e11 e12;go_wp2_with fail;go_meet
       exact HR2
      ·have eI:=fun W=>jW ys yq 60 1 W;rw[decide_eq_false hid]at eI;have HTF:Bx ((t2.sts.take (k+1)).filter Q=(t2.sts.take k).filter Q++[⟨⟨ys,yq⟩,yt,⟨ya,yb,yc,yd⟩⟩]):=⟨by
        rw[HTK.out,xM,uC (by rw[HQF.out.2];simp only[gT.mk.injEq,decide_eq_false hid,Bool.not_false]),List.filter_nil]⟩
       go_upto_region 28 with (fail)
       refine px 99 (fun w'=>ab wr w') (by kernel_rfl) ?_;have kS:ab wr wr.drew:=(zE _).drew;obtain⟨wd,hwd⟩:∃z:World,z=wr.drew:=⟨_,rfl⟩
       rw[<-hwd]at kS⊢;clear hwd;refine ur 7 [(0,156),(1,157),(2,158),(3,159),(4,160),(5,161),(6,162)] rfl (by kernel_rfl) (by kernel_rfl) (fun _ _ _ _ _ h=>h) kS ?_;iterate 7 (apply Ff;(case ho=>exact rfl);(case hw=>exact rfl);(case hy=>((intro wk hk);(try dsimp only at hk);(replace j0:=hk.cell j0);(replace y0:=hk.cell y0);(replace y1:=hk.cell y1);(replace e0:=hk.cell e0);(replace e1:=hk.cell e1);(replace e2:=hk.cell e2);(replace e3:=hk.cell e3);(replace e4:=hk.cell e4);(replace e5:=hk.cell e5);(replace e6:=hk.cell e6);(replace e7:=hk.cell e7);(replace e8:=hk.cell e8);(replace e9:=hk.cell e9);(replace e10:=hk.cell e10);(replace e11:=hk.cell e11);(replace e12:=hk.cell e12);go_simp;try with_reducible rfl));(case hput=>(simp only[Act.put,List.setIfInBounds_toArray,List.set_cons_zero,List.set_cons_succ];exact rfl)))
       refine Lh ?_;refine Cw 7 (by kernel_rfl) rfl (fun K hK=>?_);go_simp;refine (dN _ _ _ _ _ _ _ _ _ _ _ _ _ _ _ _).mono ?_;rintro e wb ⟨rfl,hx⟩;have kS2:ab wr wb:=kS.trans hx;refine hK.out _ _ (fun _=>kS2) ?_;clear hK K;try simp only[Act.put,List.setIfInBounds_toArray,vA,List.set_cons_succ]
       refine ur 1 [(8,164)] rfl (by kernel_rfl) (by kernel_rfl) (fun _ _ _ _ _ h=>h) kS2 ?_;(apply Ff;(case ho=>exact rfl);(case hw=>exact rfl);(case hy=>((intro wk hk);(try dsimp only at hk);(replace j0:=hk.cell j0);(replace y0:=hk.cell y0);(replace y1:=hk.cell y1);(replace e0:=hk.cell e0);(replace e1:=hk.cell e1);(replace e2:=hk.cell e2);(replace e3:=hk.cell e3);(replace e4:=hk.cell e4);(replace e5:=hk.cell e5);(replace e6:=hk.cell e6);(replace e7:=hk.cell e7);(replace e8:=hk.cell e8);(replace e9:=hk.cell e9);(replace e10:=hk.cell e10);(replace e11:=hk.cell e11);(replace e12:=hk.cell e12);go_simp;try with_reducible rfl));(case hput=>(simp only[Act.put,List.setIfInBounds_toArray,List.set_cons_zero,List.set_cons_succ];exact rfl)));refine Lh ?_;refine zc (by kernel_rfl) ?_ _;have HR2:Bx (ah w13.heap.size 67 7 (cU w) wb u22 ((t2.sts.take k).filter Q)/\ab w13 wb):=⟨HR.out.1.ext kS2,HR.out.2.trans kS2⟩
       have HLQ:Bx (((t2.sts.take k).filter Q).length<=1000):=⟨by have:=uP Q (t2.sts.take k);have:=List.length_take_le k t2.sts;have h2:=hm3;omega⟩
       replace j0:=kS2.cell j0;replace y0:=kS2.cell y0;replace y1:=kS2.cell y1;replace y2:=kS2.cell y2;replace y3:=kS2.cell y3;replace y4:=kS2.cell y4;replace y5:=kS2.cell y5;replace y6:=kS2.cell y6;clear kS kS2 hx eI e0 e1 e2 e3 e4 e5 e6 e7 e8 e9 e10 e11 e12;go_wp2_with (at_builtin;go_loud (refine dq _ rfl (.tmp 165) (.tmp 171) 56 rfl w13.heap.size 67 iS _ 7 56 underlying56 hiS hS0 hS1 hS2 rfl (by omega) (cU w) u22 _ rfl (HR2.out.1.ext ((zE _).alloc _)) _ #[B C ys,B C yq,B C yt,B C ya,B C yb,B C yc,B C yd] _ ⟨⟨ys,yq⟩,yt,⟨ya,yb,yc,yd⟩⟩ rfl (heap_alloc_new _ _) rfl (by simp[Value.oneCell']) ⟨rfl,HYW.out⟩ (by have:=HLQ.out;omega) (by omega) (by have:=HR2.out.2.size;simp;omega) ?_;intro v9 w19 hown9 hg9;have HR3:Bx (ah w13.heap.size 67 7 (cU w) w19 v9 ((t2.sts.take (k+1)).filter Q)/\ab w13 w19):=⟨by rw[HTF.out];exact hown9,(HR2.out.2.alloc _).grown hg9 HR2.out.1.ge⟩;clear hown9 hg9));go_meet
       exact HR3
     case rest =>
     have HRX:=zZ hcut.out;go_wp2_with fail;go_roundw
     case rel=>exact⟨k+1,by go_num,by omega,⟨HRX.out⟩⟩
     case measure=>simp[intOf];omega
    ·obtain rfl:k=m2:=by omega
     have hRS:rA w.heap.size wr u22 t.sts:=by have h:rA w.heap.size wr u22 ((t2.sts.take k).filter Q):=HR.out.1.isS (by decide) HF13.out.lt (fun _ _ h=>h);rw[xV (by have:=HM2.out.1;omega),HQF.out.1]at h;exact h
     have hR2:=HR.out.2;obtain⟨A22,n22,c22,rfl,-⟩:=hRS.open_;clear HR;have HR:Bx (True/\ab w13 wr):=⟨trivial,hR2⟩
     have HRR:Bx (aK w.heap.size wr (.agg #[D A22 n22 c22,D BG ng dG]) t):=⟨⟨_,_,rfl,hRS,by have h:=bj.ext HGG.out (lO.stab _) HR.out.2;rw[HPG.out]at h;exact h⟩⟩
     clear hRS hR2;have HI2:Bx (aK w.heap.size wr (.agg #[D AS ns cS,D (some ⟨bg,og,none⟩) ng cG]) t):=⟨HI6.out.ext (HR13.out.xt.trans HR.out.2)⟩
     have i0:=(((HF13.out.at_ 1 rfl).ext HR.out.2)).cell (i:=0) rfl;have i1:=(((HF13.out.at_ 1 rfl).ext HR.out.2)).cell (i:=1) rfl;have j1:=((HF13.out.at_ 2 rfl).ext HR.out.2).cell (i:=1) rfl;go_wp2_with fail;refine (jZ _ _ _ _ _ HI2.out HRR.out).mono ?_;rintro e w20 ⟨⟨r,rfl,hr⟩,hx20⟩;obtain rfl:r=true:=hr.2 ⟨rfl,rfl⟩;go_wp2_with fail;refine (cN _ (HF13.out.tb.ext (HR.out.2.trans hx20))).mono ?_;rintro e w21 ⟨rfl,hx21⟩;go_wp2_with fail;go_ret
     exact⟨rfl,((HF13.out.fin HE.out).trans (HR.out.2.trans hx20)).trans hx21⟩
end Go.Proofs.YtkaajgoeahahpaaGreatDoor

