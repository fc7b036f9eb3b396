import Derived.Test.YtkaajgoeahahpaaGreatDoorH19
import Derived.Laws.Concat
set_option linter.all false
set_option maxRecDepth 100000
set_option maxHeartbeats 0
namespace Go.Proofs.YtkaajgoeahahpaaGreatDoor
open Go.Value renaming int→B,slice→D
open Go.IntKind renaming i64→C
open Go.RowKit _root_.Go.Proofs.Tryz
def Lt(p:Nat)(w wx:World)(g6 g7:Nat)(X:Array Value)(cx:aj)(A:Option Addr)(n cc:Nat)(yt ys yq yk yct yts ytq ylp ylc ylg ylv:Int)(ystr:List UInt8)(ych:List Int)(yA:Option Addr)(yn ycc:Nat):Prop :=
 LF p w wx [(g6,X,47),(g7,#[B C yt,B C ys,B C yq,B C yk,.string (ba ystr),B C yct,D yA yn ycc,B C yts,B C ytq,B C ylp,B C ylc,B C ylg,B C ylv],47)]/\ak g7 wx (D A n cc) cx.ch/\ak p wx (D yA yn ycc) ych/\cx≠⟨⟨yt,ys,yq⟩,yk,ystr,yct,ych,⟨yts,ytq⟩,⟨ylp,ylc,ylg,ylv⟩⟩
theorem mY(v0:Value)(l0:List Int)(a1:Int)(w:World)(h0:ak w.heap.size w v0 l0)(h1:aU a1)(hT:cK w) :
  Calls prog 5 #[v0,B C a1] w fun e w'=>e=.returned (.bool true)/\ab w w':=by
 have HA1:=zZ h1;clear h1;have H0:=zZ h0;have HB:=zZ hT;clear h0 hT;go_enter func5,ntmps5
 go_wp2_with fail;refine (ib _ l0 _ H0.out).mono ?_;rintro e w1 ⟨rfl,HT1,HE1⟩;have HE:=zZ HE1;have HF1:Bx (LF w.heap.size w1 w1 []):=⟨LF.start HT1 (HB.out.ext HE1) HB.out.lt⟩
 clear HT1 HE1;go_wp2_with fail;refine (dp _ 0 _ HF1.out.fr.tp (by omega) (by omega)).mono ?_;rintro e w2 ⟨v2,rfl,⟨s,hsv,hwf,-⟩,HT2,HX2⟩;have hs2:=hsv.isSit hwf HF1.out.fr.hp;have HWF:=zZ hwf;obtain⟨AP,nP,cP,AB,nB,cB,AX,nX,cX,rfl⟩:=hs2.op;have HF3:=bx (HF1.out.step HX2 HT2);have HS3:Bx (aR w.heap.size w2 (.agg #[B C s.num,D AP nP cP,D AB nB cB,D AX nX cX]) s):=⟨hs2⟩
 clear hs2 hsv hwf HT2 HX2 HF1;go_wp2_with fail;refine (nR _ _ s ⟨0,0,0,0⟩ 3 _ HF3.out.fr.tp HS3.out lab0 (by decide)).mono ?_;rintro e w4 ⟨v4,rfl,⟨t,sr,ct,bs,A,c,ch,rfl,ht0,ht1,hs0,hs1,hc0,hc1,hbs,hch⟩,HT4,HX4⟩;obtain⟨str,hstr⟩:=nm (bl bs);obtain rfl:bs=ba str:=by rw[hstr,Bl]
 have HF4:=bx (HF3.out.step HX4 HT4);have hi4:ak w.heap.size w4 (D A ch.length c) ch:=hch.isI HF3.out.lt;have hcl:ch.length<=200:=hch.2.2;have HCI:Bx (∀x∈ch,aU x):=⟨hch.2.1⟩
 have hsl:str.length<=1000:=by rw[<-JD];exact hbs
 clear hstr hbs hch HT4 HX4 HF3 HS3 HWF;obtain⟨g6,hg6⟩:=nm w4.heap.size;obtain⟨w5,hw5⟩:=nm ((w4.alloc (.cells #[B C t,B C sr,B C 3,B C 1,.string (ba str),B C ct,D A ch.length c,B C 0,B C 0,B C 0,B C 0,B C 0,B C 0] 47)):World);have HF5:Bx (LF w.heap.size w1 w5 [(g6,#[B C t,B C sr,B C 3,B C 1,.string (ba str),B C ct,D A ch.length c,B C 0,B C 0,B C 0,B C 0,B C 0,B C 0],47)]):=⟨by rw[hw5];exact HF4.out.push _ _ hg6.symm⟩
 have hx45:ab w4 w5:=by rw[hw5];exact (zE _).alloc _
 go_upto_region 3 with (fail)
 rw[<-hw5,<-hg6];clear hw5 hg6 HF4;obtain⟨j0,j1,j2,j3,j4,j5,j6,j7,j8,j9,j10,j11,j12⟩:=(HF5.out.at_ 0 rfl).p13 rfl;obtain⟨g7,hg7⟩:=nm w5.heap.size;obtain⟨w6,hw6⟩:=nm ((w5.alloc (.cells #[B C t,B C sr,B C 3,B C 1,.string (ba str),B C ct,D A ch.length c,B C 0,B C 0,B C 0,B C 0,B C 0,B C 0] 47)):World);have HF6:Bx (LF w.heap.size w1 w6 [(g6,#[B C t,B C sr,B C 3,B C 1,.string (ba str),B C ct,D A ch.length c,B C 0,B C 0,B C 0,B C 0,B C 0,B C 0],47),(g7,#[B C t,B C sr,B C 3,B C 1,.string (ba str),B C ct,D A ch.length c,B C 0,B C 0,B C 0,B C 0,B C 0,B C 0],47)]):=⟨by rw[hw6];exact HF5.out.push _ _ hg7.symm⟩
 have HI6:Bx (ak g7 w6 (D A ch.length c) ch):=⟨by rw[hw6];exact (hi4.re (by rw[hg7];exact hx45.size)).ext (hx45.alloc _)⟩
 go_upto_region 4 with (fail)
 rw[<-hw6,<-hg7];clear hw6 hg7 hx45 HF5 hi4 j0 j1 j2 j3 j4 j5 j6 j7 j8 j9 j10 j11 j12;have HLT:Bx (w.heap.size<w6.heap.size):=⟨HF6.out.lt⟩
 have HLE:Bx (w1.heap.size<=w6.heap.size):=⟨HF6.out.fr.xt.size⟩
 obtain⟨i0,hi0,hz0,hz1,hz2⟩:=info_parts Tryz.infoI;have HO:Bx ((w6.alloc (.cells #[] 3)).ownsRow w6.heap.size 3 1 (D (some ⟨w6.heap.size,0,none⟩) 0 0) 0 []):=⟨uT w6 #[] 0 (zX _) (by unfold maxLen;omega) rfl⟩
 have j6:=fun o=>((HF6.out.at_ 0 rfl).alloc o).c 6 rfl;go_upto_block 0 with (first
  |(at_builtin;refine dh _ rfl (.tmp 16) (.tmp 18) 22 rfl w6.heap.size 3 i0 _ 8 underlying22 hi0 hz0 hz1 hz2 rfl _ 0 [] rfl HO.out g7 A ch.length c ch rfl (HI6.out.ext ((zE _).alloc _)) (by omega) (by omega) (by simp) ?_;intro v8 w8 hown hg;rw[yV,List.nil_append]at hown;obtain⟨A9,c9,rfl⟩:=ig hown;have HV8:Bx (fu w8 w6.heap.size (D A9 ch.length c9) ch):=⟨hown,HCI.out,hcl⟩;have HX8:Bx (ab w6 w8):=⟨ab.grown ((zE _).alloc _) hg (fun k hk=>by have:=aq HO.out k hk;omega)⟩;have HF8:=zZ (HF6.out.ext HX8.out);have f6:=(HF8.out.at_ 1 rfl).froz 6;have k6:=(HF8.out.at_ 1 rfl).c 6 rfl;clear hown hg)
  |(go_at_call 28;refine (qb _ _ _ HA1.out.1 HA1.out.2 (by omega)).mono ?_;rintro e w10 ⟨rfl,rfl⟩))
 obtain⟨w9,hw9⟩:=nm ((w8.setCell ⟨g7,6,none⟩ (D A9 ch.length c9)):World);have HF9:Bx (LF w.heap.size w1 w9 [(g6,#[B C t,B C sr,B C 3,B C 1,.string (ba str),B C ct,D A ch.length c,B C 0,B C 0,B C 0,B C 0,B C 0,B C 0],47),(g7,#[B C t,B C sr,B C 3,B C 1,.string (ba str),B C ct,D A9 ch.length c9,B C 0,B C 0,B C 0,B C 0,B C 0,B C 0],47)]):=⟨by rw[hw9];exact HF8.out.set 1 rfl 6 _⟩
 have HX69:Bx (XT g7 w6 w9):=⟨by rw[hw9];exact HX8.out.xt.setCell rfl _⟩
 have HV9:Bx (fu w9 w6.heap.size (D A9 ch.length c9) ch):=⟨by rw[hw9];exact HV8.out.far (HF8.out.at_ 1 rfl) (by decide) 6 _⟩
 rw[<-hw9];clear hw9 HF8 HX8 HV8 HF6 j6 k6 f6;obtain⟨q,hq⟩:=nm (eW a1 12);have hq0:0<=q/\q<12:=by rw[hq];exact⟨vn _ _,vy _ _ (by omega)⟩
 rw[<-hq];clear hq;go_cut [] (fun wx=>∃(yt ys yq yk yct yts ytq ylp ylc ylg ylv:Int) (ystr:List UInt8) (ych:List Int) (yA:Option Addr) (yn ycc:Nat),Bx (Lt w.heap.size w1 wx g6 g7 #[B C t,B C sr,B C 3,B C 1,.string (ba str),B C ct,D A ch.length c,B C 0,B C 0,B C 0,B C 0,B C 0,B C 0] ⟨⟨t,sr,3⟩,1,str,ct,ch,⟨0,0⟩,⟨0,0,0,0⟩⟩ A ch.length c yt ys yq yk yct yts ytq ylp ylc ylg ylv ystr ych yA yn ycc))
 case first =>
  have hqq:q=0\/q=1\/q=2\/q=3\/q=4\/q=5\/q=6\/q=7\/q=8\/q=9\/q=10\/q=11:=by omega
  rcases hqq with rfl|rfl|rfl|rfl|rfl|rfl|rfl|rfl|rfl|rfl|rfl|rfl
  ·have j0:=(HF9.out.at_ 1 rfl).c 0 rfl;have f0:=(HF9.out.at_ 1 rfl).froz;go_wp2_with fail;go_meet
   exact⟨t+1,sr,3,1,ct,0,0,0,0,0,0,str,ch,A9,ch.length,c9,⟨(HF9.out.set 1 rfl 0 (B C (t+1))),HI6.out.xt (XT.setCell HX69.out rfl (B C (t+1))),(HV9.out.far (HF9.out.at_ 1 rfl) (by decide) 0 (B C (t+1))).isI HLT.out,fun h=>by simp at h<;>omega⟩⟩
  ·have j1:=(HF9.out.at_ 1 rfl).c 1 rfl;have f1:=(HF9.out.at_ 1 rfl).froz;go_wp2_with fail;go_meet
   exact⟨t,sr+1,3,1,ct,0,0,0,0,0,0,str,ch,A9,ch.length,c9,⟨(HF9.out.set 1 rfl 1 (B C (sr+1))),HI6.out.xt (XT.setCell HX69.out rfl (B C (sr+1))),(HV9.out.far (HF9.out.at_ 1 rfl) (by decide) 1 (B C (sr+1))).isI HLT.out,fun h=>by simp at h<;>omega⟩⟩
  ·have j2:=(HF9.out.at_ 1 rfl).c 2 rfl;have f2:=(HF9.out.at_ 1 rfl).froz;go_wp2_with fail;go_meet
   exact⟨t,sr,4,1,ct,0,0,0,0,0,0,str,ch,A9,ch.length,c9,⟨(HF9.out.set 1 rfl 2 (B C (4))),HI6.out.xt (XT.setCell HX69.out rfl (B C (4))),(HV9.out.far (HF9.out.at_ 1 rfl) (by decide) 2 (B C (4))).isI HLT.out,fun h=>by simp at h<;>omega⟩⟩
  ·have j3:=(HF9.out.at_ 1 rfl).c 3 rfl;have f3:=(HF9.out.at_ 1 rfl).froz;go_wp2_with fail;go_meet
   exact⟨t,sr,3,2,ct,0,0,0,0,0,0,str,ch,A9,ch.length,c9,⟨(HF9.out.set 1 rfl 3 (B C (2))),HI6.out.xt (XT.setCell HX69.out rfl (B C (2))),(HV9.out.far (HF9.out.at_ 1 rfl) (by decide) 3 (B C (2))).isI HLT.out,fun h=>by simp at h<;>omega⟩⟩
  ·have j4:=(HF9.out.at_ 1 rfl).c 4 rfl;have f4:=(HF9.out.at_ 1 rfl).froz;have hcat:∀W,(Op.stringOp .add (ba str) ⟨#[48]⟩).run prog W=.ok (.string (ba (str++[48]))) W:=fun W=>run_string_add_lists W str [48] (by omega) (by simp);go_wp2_with fail;go_meet
   exact⟨t,sr,3,1,ct,0,0,0,0,0,0,str++[48],ch,A9,ch.length,c9,⟨(HF9.out.set 1 rfl 4 (.string (ba (str++[48])))),HI6.out.xt (XT.setCell HX69.out rfl (.string (ba (str++[48])))),(HV9.out.far (HF9.out.at_ 1 rfl) (by decide) 4 (.string (ba (str++[48])))).isI HLT.out,fun h=>by simp at h<;>omega⟩⟩
  ·have j5:=(HF9.out.at_ 1 rfl).c 5 rfl;have f5:=(HF9.out.at_ 1 rfl).froz;go_wp2_with fail;go_meet
   exact⟨t,sr,3,1,ct+1,0,0,0,0,0,0,str,ch,A9,ch.length,c9,⟨(HF9.out.set 1 rfl 5 (B C (ct+1))),HI6.out.xt (XT.setCell HX69.out rfl (B C (ct+1))),(HV9.out.far (HF9.out.at_ 1 rfl) (by decide) 5 (B C (ct+1))).isI HLT.out,fun h=>by simp at h<;>omega⟩⟩
  ·have j6:=(HF9.out.at_ 1 rfl).c 6 rfl;have HV:=zZ HV9.out;go_wp2_with (at_builtin;go_loud (refine aF _ rfl (.tmp 80) (.tmp 81) 22 rfl w6.heap.size 3 i0 _ 8 underlying22 hi0 hz0 hz1 hz2 rfl (D A9 ch.length c9) _ _ rfl (HV9.out.1.alloc _) _ _ rfl (by simp;rfl) rfl (by omega) (by omega) (by have:=HX69.out.size;simp;omega) ?_;intro v10 w10 hown hg;obtain⟨A8,c8,rfl⟩:=ig hown;have hx9:ab w9 (w9.alloc (.cells #[B C 0] 3)):=(zE _).alloc _;have hap:∀(k:Nat) x,([(g6,#[B C t,B C sr,B C 3,B C 1,.string (ba str),B C ct,D A ch.length c,B C 0,B C 0,B C 0,B C 0,B C 0,B C 0],47),(g7,#[B C t,B C sr,B C 3,B C 1,.string (ba str),B C ct,D A9 ch.length c9,B C 0,B C 0,B C 0,B C 0,B C 0,B C 0],47)]:BL)[k]?=some x->(Value.slice A9 ch.length c9).ownBlock≠some x.1:=(fun k x hx=>aG ((HV9.out.ext ((zE _).alloc (.cells #[B C 0] 3))).1) (by have h:=(HF9.out.ext ((zE _).alloc (.cells #[B C 0] 3))).fr.bl.bk k x.1 x.2.1 x.2.2 hx;exact h.2) (by rcases k with _|_|k<;>simp at hx<;>subst hx<;>exact (by decide:47≠3)));have HF10:Bx (LF w.heap.size w1 w10 [(g6,#[B C t,B C sr,B C 3,B C 1,.string (ba str),B C ct,D A ch.length c,B C 0,B C 0,B C 0,B C 0,B C 0,B C 0],47),(g7,#[B C t,B C sr,B C 3,B C 1,.string (ba str),B C ct,D A9 ch.length c9,B C 0,B C 0,B C 0,B C 0,B C 0,B C 0],47)]):=⟨(HF9.out.ext hx9).grown hg hap (fun k hk=>by have h1:=aq HV9.out.1 k hk;have h2:=HLE.out;omega)⟩;have HV10:Bx (w10.ownsRow w6.heap.size 3 1 (D A8 (ch.length+1) c8) (ch.length+1) ((ch++[0]).map (Value.int .i64))/\∀x∈ch++[0],aU x):=⟨⟨by simpa using hown,fun x hx=>by rcases zM.1 hx with h|h;exact HCI.out x h;(have h2:x=0:=(by simpa using h);subst h2;exact pM)⟩⟩;have HX610:Bx (XT g7 w6 w10):=⟨(HX69.out.trans hx9.xt).grown hg (aq HV9.out.1)⟩;have k6:=(HF10.out.at_ 1 rfl).c 6 rfl;have f6:=(HF10.out.at_ 1 rfl).froz 6;clear hown hg hap hx9));go_meet
   exact⟨t,sr,3,1,ct,0,0,0,0,0,0,str,ch++[0],A8,ch.length+1,c8,⟨HF10.out.set 1 rfl 6 _,HI6.out.xt (XT.setCell HX610.out rfl _),ak.of_own (aN HV10.out.1 (aG HV10.out.1 (HF10.out.at_ 1 rfl) (by decide)) _) HLT.out HV10.out.2 (by simp;omega),fun h=>by simp at h⟩⟩
  ·have j7:=(HF9.out.at_ 1 rfl).c 7 rfl;have f7:=(HF9.out.at_ 1 rfl).froz;go_wp2_with fail;go_meet
   exact⟨t,sr,3,1,ct,1,0,0,0,0,0,str,ch,A9,ch.length,c9,⟨(HF9.out.set 1 rfl 7 (B C (1))),HI6.out.xt (XT.setCell HX69.out rfl (B C (1))),(HV9.out.far (HF9.out.at_ 1 rfl) (by decide) 7 (B C (1))).isI HLT.out,fun h=>by simp at h<;>omega⟩⟩
  ·have j8:=(HF9.out.at_ 1 rfl).c 8 rfl;have f8:=(HF9.out.at_ 1 rfl).froz;go_wp2_with fail;go_meet
   exact⟨t,sr,3,1,ct,0,1,0,0,0,0,str,ch,A9,ch.length,c9,⟨(HF9.out.set 1 rfl 8 (B C (1))),HI6.out.xt (XT.setCell HX69.out rfl (B C (1))),(HV9.out.far (HF9.out.at_ 1 rfl) (by decide) 8 (B C (1))).isI HLT.out,fun h=>by simp at h<;>omega⟩⟩
  ·have j9:=(HF9.out.at_ 1 rfl).c 9 rfl;have f9:=(HF9.out.at_ 1 rfl).froz;go_wp2_with fail;go_meet
   exact⟨t,sr,3,1,ct,0,0,1,0,0,0,str,ch,A9,ch.length,c9,⟨(HF9.out.set 1 rfl 9 (B C (1))),HI6.out.xt (XT.setCell HX69.out rfl (B C (1))),(HV9.out.far (HF9.out.at_ 1 rfl) (by decide) 9 (B C (1))).isI HLT.out,fun h=>by simp at h<;>omega⟩⟩
  ·have j10:=(HF9.out.at_ 1 rfl).c 10 rfl;have f10:=(HF9.out.at_ 1 rfl).froz;go_wp2_with fail;go_meet
   exact⟨t,sr,3,1,ct,0,0,0,1,0,0,str,ch,A9,ch.length,c9,⟨(HF9.out.set 1 rfl 10 (B C (1))),HI6.out.xt (XT.setCell HX69.out rfl (B C (1))),(HV9.out.far (HF9.out.at_ 1 rfl) (by decide) 10 (B C (1))).isI HLT.out,fun h=>by simp at h<;>omega⟩⟩
  ·have j11:=(HF9.out.at_ 1 rfl).c 11 rfl;have j12:=(HF9.out.at_ 1 rfl).c 12 rfl;have f11:=(HF9.out.at_ 1 rfl).froz;have f12:=f11;go_wp2_with fail;go_meet
   exact⟨t,sr,3,1,ct,0,0,0,0,1,1,str,ch,A9,ch.length,c9,⟨((HF9.out.set 1 rfl 11 (B C (1))).set 1 rfl 12 (B C (1))),HI6.out.xt (XT.setCell (XT.setCell HX69.out rfl (B C (1))) rfl (B C (1))),((HV9.out.far (HF9.out.at_ 1 rfl) (by decide) 11 (B C (1))).far ((HF9.out.set 1 rfl 11 (B C (1))).at_ 1 rfl) (by decide) 12 (B C (1))).isI HLT.out,fun h=>by simp at h<;>omega⟩⟩
 case rest =>
 obtain⟨yt,ys,yq,yk,yct,yts,ytq,ylp,ylc,ylg,ylv,ystr,ych,yA,yn,ycc,HD⟩:=hcut;obtain⟨w11,rfl⟩:=nm wc;have HN:Bx (decide ((⟨⟨t,sr,3⟩,1,str,ct,ch,⟨0,0⟩,⟨0,0,0,0⟩⟩:aj)=⟨⟨yt,ys,yq⟩,yk,ystr,yct,ych,⟨yts,ytq⟩,⟨ylp,ylc,ylg,ylv⟩⟩)=false/\decide ((⟨⟨yt,ys,yq⟩,yk,ystr,yct,ych,⟨yts,ytq⟩,⟨ylp,ylc,ylg,ylv⟩⟩:aj)=⟨⟨t,sr,3⟩,1,str,ct,ch,⟨0,0⟩,⟨0,0,0,0⟩⟩)=false):=⟨⟨decide_eq_false HD.out.2.2.2,decide_eq_false fun h=>HD.out.2.2.2 h.symm⟩⟩
 obtain⟨c0,c1,c2,c3,c4,c5,c6,c7,c8,c9,c10,c11,c12⟩:=(HD.out.1.at_ 0 rfl).p13 rfl;obtain⟨d0,d1,d2,d3,d4,d5,d6,d7,d8,d9,d10,d11,d12⟩:=(HD.out.1.at_ 1 rfl).p13 rfl;clear HF9 HV9 HI6 HX69 HO;go_wp2_with fail;refine (jq t sr 3 1 ct 0 0 0 0 0 0 yt ys yq yk yct yts ytq ylp ylc ylg ylv str ystr ch ych A yA ch.length c yn ycc _ HD.out.2.1 HD.out.2.2.1).mono ?_;rintro e w12 ⟨rfl,hx12⟩;rw[HN.out.1];have HD2:Bx (ak w.heap.size w12 (D yA yn ycc) ych/\ak g7 w12 (D A ch.length c) ch):=⟨⟨HD.out.2.2.1.ext hx12,HD.out.2.1.ext hx12⟩⟩
 have HF12:=zZ (HD.out.1.ext hx12);clear hx12 HD c0 c1 c2 c3 c4 c5 c6 c7 c8 c9 c10 c11 c12 d0 d1 d2 d3 d4 d5 d6 d7 d8 d9 d10 d11 d12;obtain⟨c0,c1,c2,c3,c4,c5,c6,c7,c8,c9,c10,c11,c12⟩:=(HF12.out.at_ 0 rfl).p13 rfl;obtain⟨d0,d1,d2,d3,d4,d5,d6,d7,d8,d9,d10,d11,d12⟩:=(HF12.out.at_ 1 rfl).p13 rfl;go_wp2_with fail;refine (jq yt ys yq yk yct yts ytq ylp ylc ylg ylv t sr 3 1 ct 0 0 0 0 0 0 ystr str ych ch yA A yn ycc ch.length c _ HD2.out.1 HD2.out.2).mono ?_;rintro e w13 ⟨rfl,hx13⟩;rw[HN.out.2];go_wp2_with fail;refine (cN _ (HF12.out.tb.ext hx13)).mono ?_;rintro e w14 ⟨rfl,hx14⟩;go_wp2_with fail;go_ret
 exact⟨rfl,((HF12.out.fin HE.out).trans hx13).trans hx14⟩
end Go.Proofs.YtkaajgoeahahpaaGreatDoor

