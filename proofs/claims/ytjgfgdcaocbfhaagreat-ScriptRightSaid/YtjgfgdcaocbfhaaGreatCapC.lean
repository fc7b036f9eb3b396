import Derived.Test.YtjgfgdcaocbfhaaGreatH6
set_option linter.all false
set_option maxRecDepth 100000
set_option maxHeartbeats 0
namespace Go.Proofs.YtjgfgdcaocbfhaaGreat
open Go.Value renaming int→B,slice→D
open Go.IntKind renaming i64→C
open Go.RowKit _root_.Go.Proofs.Tryz
variable {b:Nat}
theorem Di{ps:List ai}{pg:List Int}(h:∀x∈pg,∃(j:Nat) (q:ai),x=j∧ps[j]?=some q∧q.opts≤5):(cW ps pg).length≤5*pg.length:=by
 induction pg with
 |nil=>simp[cW]
 |cons x pg ih =>
  have h1:=ih fun y hy=>h y (by simp[hy]);obtain⟨j,q,rfl,hq,ho⟩:=h x (by simp);have h2:(gz ps (j:Int)).length≤5:=by
   by_cases hk:q.kind=2
   ·rw[mg hq hk,zM,wM];omega
   ·rw[qg hq hk];simp
  have e:cW ps ((j:Int)::pg)=gz ps (j:Int)++cW ps pg:=by simp[cW]
  rw[e,zI,xT];omega
theorem mI(code var:Int)(ps:List ai)(pgs:List (List Int))(page:Int):(aA code var ps pgs page).length≤120:=by
 unfold aA;split
 ·rename_i h
  cases hp:pgs[page.toNat]? with
  |none=>simp
  |some pg =>
   obtain⟨h1,h2⟩:=eA h.1 hp;have:=Di (ps:=ps) (pg:=pg) fun x hx=>by obtain⟨k,hk⟩:=yZ hx;obtain⟨j,q,e,hq,_,hv⟩:=h2 k x hk;exact⟨j,q,e,hq,by have:=je hv;omega⟩
   simp only;omega
 ·simp
theorem DH{p:Nat}{w:World}{off:Nat}{cs:List Value}{x:gE}(hc:∀j u,cs[j]?=some u→w.cell? ⟨b,off+j,none⟩=some u)(h:uQ p w cs x) :
  ∃A n c,w.cell? ⟨b,off,none⟩=some (B C x.code)∧w.cell? ⟨b,off+1,none⟩=some (B C x.var)∧w.cell? ⟨b,off+2,none⟩=some (D A n c)∧kr p w (D A n c) x.ps∧aC x.code∧aC x.var:=by
 obtain⟨u,rfl,hq,h1,h2⟩:=h;obtain⟨A,n,c,rfl,_⟩:=hq.open_;exact⟨A,n,c,hc 0 _ rfl,hc 1 _ rfl,hc 2 _ rfl,hq,h1,h2⟩
theorem Ee{p:Nat}{w:World}{off:Nat}{cs:List Value}{x:List (List Int)}(hc:∀j u,cs[j]?=some u→w.cell? ⟨b,off+j,none⟩=some u)(h:GE p w cs x) :
  ∃A n c,w.cell? ⟨b,off,none⟩=some (D A n c)∧kL p w (D A n c) x:=by
 obtain⟨u,rfl,hq⟩:=h;obtain⟨A,n,c,rfl,_⟩:=hq.open_;exact⟨A,n,c,hc 0 _ rfl,hq⟩
def eY(w:World)(base:Nat)(v:Value)(ch:List Int):Prop:=w.ownsRow base 3 1 v ch.length (ch.map (Value.int .i64))∧(∀x∈ch,aC x)∧ch.length≤200
section
variable {p base:Nat} {w w':World} {v:Value} {ch:List Int}
theorem eY.xt(h:eY w base v ch)(hx:XT p w w')(hp:p<base):eY w' base v ch:=⟨dJ h.1 hx hp,h.2⟩
theorem eY.ext(h:eY w base v ch)(hx:ab w w'):eY w' base v ch:=⟨ac h.1 hx,h.2⟩
theorem eY.base_(h:eY w base v ch)(hb:b≤base):eY w b v ch:=⟨bo h.1 hb,h.2⟩
theorem eY.isI(h:eY w base v ch)(hp:p<base):ao p w v ch:=ao.of_own h.1 hp h.2.1 (by have:=h.2.2;omega)
theorem eY.form(h:eY w base v ch):∃A c,v=D A ch.length c:=by
 rcases h.1.2 with ⟨e,h0⟩|⟨g,cap,cur,e,_⟩
 ·exact⟨none,0,by rw[e,h0]⟩
 ·exact⟨_,_,e⟩
theorem eY.far{g:Nat}{cs:Array Value}{t:TypeId}(h:eY w base v ch)(hb:Bk w g cs t)(ht:t≠3)(i:Nat)(u:Value):eY (w.setCell ⟨g,i,none⟩ u) base v ch :=
 ⟨bm (a:=⟨g,i,none⟩) h.1 (ex h.1 hb ht) u,h.2⟩
theorem eY.apart{e size n:Nat}{z:Value}{xs:List Value}(h:eY w base v ch)(ho:w.ownsRow b e size z n xs)(he:3≠e)(hg:w.grownBy w' z.ownBlock):eY w' base v ch :=
 ⟨aE h.1 hg fun k hk e'=>bE h.1 ho he k hk e',h.2⟩
theorem eY.nil(w:World)(base:Nat):eY w base (D none 0 0) []:=⟨yW _ _ _ _,by simp,by simp⟩
end
theorem eG(p:Nat)(v:Value)(s:aZ)(l:cU)(w:World)(h:bt w p)(hs:aN p w v s)(hl:l.wf) :
  Calls prog 92 #[.pointer (some ⟨p,0,none⟩),v,l.val] w (fX p w fun v w'=>∃ch,eY w' w.heap.size v ch):=by
 obtain⟨vP,vB,vX,rfl,hP,hB,hX,hnum⟩:=hs;obtain⟨AP,nP,cP,rfl,hnP,hcP,hmP,HLP⟩:=hP.open_;obtain⟨AB,nB,cB,rfl,hnB,hcB,hmB,HLB⟩:=hB.open_;obtain⟨i0,hi0,hz0,hz1,hz2⟩:=info_parts Tryz.infoI;obtain⟨lp,lc,lg,lv⟩:=l;obtain⟨⟨l1,l2⟩,⟨l3,l4⟩,⟨l5,l6⟩,⟨l7,l8⟩⟩:=hl;simp only at l1 l2 l3 l4 l5 l6 l7 l8;have hlt:=h.lt;have HL5:Bx (aC lg):=⟨⟨l5,l6⟩⟩
 obtain⟨w1,hw1⟩:=nm (((w.alloc (.cells #[B C s.num,D AP nP cP,D AB nB cB,vX] 27)).alloc (.cells #[B C lp,B C lc,B C lg,B C lv] 73)):World);have HF:Bx (Fr p w w1 [(w.heap.size,#[B C s.num,D AP nP cP,D AB nB cB,vX],27),(w.heap.size+1,#[B C lp,B C lc,B C lg,B C lv],73)]):=⟨by rw[hw1];exact ((Fr.start h).push _ _ rfl).push _ _ (by simp)⟩
 have HP:Bx (hY p w1 (D AP nP cP) s.pap):=⟨by rw[hw1];exact hP.ext (uQ.stab p) (((zE _).alloc _).alloc _)⟩
 have HB:Bx (gm p w1 (D AB nB cB) s.bk):=⟨by rw[hw1];exact hB.ext (GE.stab p) (((zE _).alloc _).alloc _)⟩
 have hv:cU.val ⟨lp,lc,lg,lv⟩=.agg #[B C lp,B C lc,B C lg,B C lv]:=rfl;rw[hv];clear h hP hB hX hv hnum;go_enter func92,ntmps92
 go_upto_region 2 with (fail)
 rw[←hw1];clear hw1;go_cut [28] (fun s28 wx=>∃b:Bool,s28=.bool b∧Hid (b=true→0≤lv∧lv<nP∧lv<nB)∧wx=w1)
 case first =>
  have c3:=(HF.out.at_ 1 rfl).c 3 rfl;have c1:=(HF.out.at_ 0 rfl).c 1 rfl;have c2:=(HF.out.at_ 0 rfl).c 2 rfl;by_cases h0:0≤lv
  ·by_cases h1:lv<nP
   ·by_cases h2:lv<nB
    ·go_wp2_with fail;go_meet
     exact⟨true,rfl,fun _=>⟨h0,h1,h2⟩,rfl⟩
    ·go_wp2_with fail;go_meet
     exact⟨false,rfl,(fun h=>by cases h),rfl⟩
   ·go_wp2_with fail;go_meet
    exact⟨false,rfl,(fun h=>by cases h),rfl⟩
  ·go_wp2_with fail;go_meet
   exact⟨false,rfl,(fun h=>by cases h),rfl⟩
 case rest =>
 obtain⟨b,rfl,HB28,hwc⟩:=hcut;subst hwc;go_upto_if 28 with (fail)
 go_cut [7] (fun s7 wx=>∃m:Nat,s7=B C m∧m≤120∧Bx (Fr p w wx []))
 case first =>
  cases b with
  |false =>
   go_wp2_with fail;go_meet
   exact⟨0,rfl,by omega,⟨HF.out.take 0⟩⟩
  |true =>
   obtain⟨h0,h1,h2⟩:=HB28.out rfl;obtain⟨r,rfl⟩:=zG h0;have hrP:r<nP:=by omega
   have hrB:r<nB:=by omega
   obtain⟨bP,oP,_,_,rfl,-⟩:=HP.out.at_ hrP;obtain⟨bB,oB,_,_,rfl,-⟩:=HB.out.at_ hrB;obtain⟨csP,q,-,hcP',hRP,hxP⟩:=HP.out.cell_ hrP;obtain⟨csB,bk,-,hcB',hRB,hxB⟩:=HB.out.cell_ hrB;obtain⟨Aq,nq,cq,p0,p1,p2,hIQ,hq1,hq2⟩:=DH hcP' hRP;obtain⟨Ab,nb,cb,b0,hIB⟩:=Ee hcB' hRB;have HQ:Bx (kr p wc (D Aq nq cq) q.ps):=⟨hIQ⟩
   have HK:Bx (kL p wc (D Ab nb cb) bk):=⟨hIB⟩
   have HQw:Bx (aC q.code∧aC q.var):=⟨⟨hq1,hq2⟩⟩
   clear hcP' hRP hxP hcB' hRB hxB hIQ hIB hq1 hq2;go_upto_region 3 with (fail)
   rw[wY]at b0;have hF:=HF.out.drew;have kS:wc.drew.cell? ⟨w.heap.size+1,2,none⟩=some (B C lg)∧wc.drew.cell? ⟨w.heap.size+1,3,none⟩=some (B C (r:Int))∧wc.drew.cell? ⟨w.heap.size,1,none⟩=some (D (some ⟨bP,oP,none⟩) nP cP)∧wc.drew.cell? ⟨w.heap.size,2,none⟩=some (D (some ⟨bB,oB,none⟩) nB cB) ∧
    wc.drew.cell? ⟨bP,oP+r*3,none⟩=some (B C q.code)∧wc.drew.cell? ⟨bP,oP+r*3+1,none⟩=some (B C q.var)∧wc.drew.cell? ⟨bP,oP+r*3+2,none⟩=some (D Aq nq cq)∧wc.drew.cell? ⟨bB,oB+r,none⟩=some (D Ab nb cb) :=
    ⟨(hF.at_ 1 rfl).c 2 rfl,(hF.at_ 1 rfl).c 3 rfl,(hF.at_ 0 rfl).c 1 rfl,(hF.at_ 0 rfl).c 2 rfl,p0,p1,p2,b0⟩
   clear p0 p1 p2 b0 hF h0 h1 h2;refine zR 16 (fun w'=>w'.cell? ⟨w.heap.size+1,2,none⟩=some (B C lg)∧w'.cell? ⟨w.heap.size+1,3,none⟩=some (B C (r:Int))∧w'.cell? ⟨w.heap.size,1,none⟩=some (D (some ⟨bP,oP,none⟩) nP cP)∧w'.cell? ⟨w.heap.size,2,none⟩=some (D (some ⟨bB,oB,none⟩) nB cB)∧w'.cell? ⟨bP,oP+r*3,none⟩=some (B C q.code)∧w'.cell? ⟨bP,oP+r*3+1,none⟩=some (B C q.var)∧w'.cell? ⟨bP,oP+r*3+2,none⟩=some (D Aq nq cq)∧w'.cell? ⟨bB,oB+r,none⟩=some (D Ab nb cb)) ?_;refine zS 14 [(0,29),(1,30),(2,31),(3,32),(4,33),(5,34),(6,35),(7,36),(8,37),(9,38),(10,39),(11,40),(12,41),(13,42)] kS ?_;iterate 14 (apply zT;exact⟨rfl,rfl⟩;(·intro _ _;go_simp;try with_reducible rfl);simp only[kA];exact rfl)
   refine zN (zO 14 (fun K hK=>?_));go_simp;refine (gX q.code q.var lg _ _ q.ps bk _ (p:=p) HF.out.drew.lt (HQ.out.ext (aI.stab p) ((zE _).drew)) (HK.out.ext (RI.stab p) ((zE _).drew)) HL5.out).mono ?_;rintro e w2 ⟨v2,rfl,hI2,hx2⟩;obtain⟨A2,n2,c2,rfl,hn2c,hc2,hn2m,HL2⟩:=hI2.open_;have hn2:n2≤120:=by have:=HL2.out;have:=mI q.code q.var q.ps bk lg;omega
   refine hK.out _ _ (fun _=>(⟨hx2.cell kS.1,hx2.cell kS.2.1,hx2.cell kS.2.2.1,hx2.cell kS.2.2.2.1,hx2.cell kS.2.2.2.2.1,hx2.cell kS.2.2.2.2.2.1,hx2.cell kS.2.2.2.2.2.2.1,hx2.cell kS.2.2.2.2.2.2.2⟩)) ?_;clear hK K;try simp only[kA]
   refine zO 15 (fun K hK=>?_);go_simp;refine hK.out _ _ (fun _=>(⟨hx2.cell kS.1,hx2.cell kS.2.1,hx2.cell kS.2.2.1,hx2.cell kS.2.2.2.1,hx2.cell kS.2.2.2.2.1,hx2.cell kS.2.2.2.2.2.1,hx2.cell kS.2.2.2.2.2.2.1,hx2.cell kS.2.2.2.2.2.2.2⟩)) ?_;clear hK K;try simp only[kA]
   refine zO 16 (fun K hK=>?_);go_simp;refine hK.out _ _ (fun h=>absurd rfl h) ?_;clear hK K;refine zD ?_;go_wp2_with fail;go_meet
   exact⟨n2,rfl,hn2,⟨(HF.out.drew.ext hx2).take 0⟩⟩
 case rest =>
 obtain⟨m,rfl,hm,HR⟩:=hcut;clear HF HP HB;go_wp2_with fail;go_loopw [8,9] (fun s8 s9 wr=>∃(k:Nat) (l:List Int),s9=B C k∧k≤m∧l.length=k∧Bx (wr.ownsRow w.heap.size 3 1 s8 l.length (l.map (Value.int .i64))∧(∀x∈l,aC x)∧Fr p w wr [])) (fun _ i _=>m-(intOf i).toNat)
 case atStart=>exact⟨0,[],rfl,by omega,rfl,⟨yW _ _ _ _,by simp,HR.out⟩⟩
 case round =>
  obtain⟨k,l,rfl,hk,hll,HL⟩:=hrel;clear HR;by_cases hkm:k<m
  ·go_wp2_with fail;refine (cn p _ [0,0,1,8,9,4] _ (HL.out.2.2.tp.ext ((zE _).alloc _)) (ao.lit _ _ HL.out.2.2.lt (by decide) (by decide)) (by simp)).mono ?_;rintro e w2 ⟨v2,rfl,⟨x,rfl,hx⟩,HT2,HX2⟩;have hxb:aC x:=(by decide:∀x∈([0,0,1,8,9,4]:List Int),aC x) x hx;have HX:Bx (XT p _ w2):=⟨((XT.refl _ _).alloc _).trans HX2⟩
   have HT:Bx (bt w2 p):=⟨HT2⟩
   clear HT2 HX2 hx;go_wp2_with (at_builtin;refine al _ rfl (.tmp 50) (.tmp 54) 22 rfl w.heap.size 3 i0 _ 8 underlying22 hi0 hz0 hz1 hz2 rfl _ _ _ rfl ((dJ HL.out.1 HX.out hlt).alloc _) _ _ rfl (by simp;rfl) rfl (by omega) (by omega) (by have:=HL.out.2.2.xt.size;have:=HX.out.size;simp;omega) ?_;intro v' w3 hown hg);go_roundw
   case rel =>
    have h3:Fr p w w3 []:=((HL.out.2.2.step HX.out HT.out).ext ((zE _).alloc _)).grown hg (fun k x h=>by simp at h) (ar HL.out.1);refine⟨k+1,l++[x],by go_num,by omega,by simp;omega,⟨by simpa using hown,?_,h3⟩⟩;intro y hy;rcases zC.1 hy with hy|hy
    ·exact HL.out.2.1 y hy
    ·obtain rfl:y=x:=by simpa using hy
     exact hxb
   case measure=>simp[intOf];omega
  ·obtain rfl:k=m:=by omega
   go_wp2_with fail;refine (dR p 12 _ HL.out.2.2.tp (by omega) (by omega)).mono ?_;rintro e w5 ⟨v5,rfl,⟨b5,rfl⟩,HT5,HX5⟩;have H5:=bx (HL.out.2.2.step HX5 HT5);have HO:Bx (w5.ownsRow w.heap.size 3 1 u8 l.length (l.map (Value.int .i64))∧∀x∈l,aC x):=⟨⟨dJ HL.out.1 HX5 hlt,HL.out.2.1⟩⟩
   clear HL HT5 HX5;cases b5 with
   |false =>
    go_wp2_with fail;go_ret
    exact⟨_,rfl,⟨l,HO.out.1,HO.out.2,by omega⟩,H5.out.tp,H5.out.xt⟩
   |true =>
    go_wp2_with fail;refine (am p 0 10 _ H5.out.tp (by omega) (by omega) (by omega) (by omega)).mono ?_;rintro e w6 ⟨v6,rfl,⟨x,rfl,hx1,hx2⟩,HT6,HX6⟩;have H6:=bx (H5.out.step HX6 HT6);have HO6:Bx (w6.ownsRow w.heap.size 3 1 u8 l.length (l.map (Value.int .i64))):=⟨dJ HO.out.1 HX6 hlt⟩
    clear HT6 HX6 H5;go_wp2_with (at_builtin;refine al _ rfl (.tmp 58) (.tmp 61) 22 rfl w.heap.size 3 i0 _ 8 underlying22 hi0 hz0 hz1 hz2 rfl _ _ _ rfl (HO6.out.alloc _) _ _ rfl (by simp;rfl) rfl (by omega) (by omega) (by have:=H6.out.xt.size;simp;omega) ?_;intro v' w7 hown hg);go_ret
    have h7:Fr p w w7 []:=(H6.out.ext ((zE _).alloc _)).grown hg (fun k x h=>by simp at h) (ar HO6.out);refine⟨_,rfl,⟨l++[x],by simpa using hown,?_,by simp;omega⟩,h7.tp,h7.xt⟩;intro y hy;rcases zC.1 hy with hy|hy
    ·exact HO.out.2 y hy
    ·obtain rfl:y=x:=by simpa using hy
     exact⟨by omega,by omega⟩
end Go.Proofs.YtjgfgdcaocbfhaaGreat

