import Derived.Test.YtpaidaphacoblaaGreatDoorK23
set_option linter.all false
set_option maxRecDepth 100000
set_option maxHeartbeats 0
namespace Go.Proofs.YtpaidaphacoblaaGreatDoor
open Go.RowKit _root_.Go.Proofs.Tryz
variable {k:Nat}
def pO(k:Nat):List Int:=(List.range k).map (fun i:Nat=>(i:Int))
theorem Fb(k:Nat):pO (k+1)=pO k++[(k:Int)]:=by unfold pO;rw[xP];simp
theorem yw{x:Int}(h:x∈pO k):0<=x/\x<k:=by unfold pO at h;simp at h;obtain⟨i,hi,rfl⟩:=h;omega
theorem F0{l:List Int}{r:Nat}(h:l.Perm (pO k)):(l.take r++[(k:Int)]++l.drop r).Perm (pO (k+1)):=by
 rw[Fb];have h1:(l.take r++[(k:Int)]++l.drop r).Perm (l.take r++l.drop r++[(k:Int)]):=by rw[xY,xY];exact List.Perm.append_left _ List.perm_append_comm
 rw[List.take_append_drop]at h1;exact h1.trans (h.append_right _)
def LA(w:World)(base:Nat)(n:Nat)(v:Value):Prop :=
 ∃l:List Int,w.ownsRow base 3 1 v l.length (l.map (Value.int .i64))/\l.Perm (pO n)
theorem Ft(p:Nat)(n:Nat)(w:World)(h:bz w p)(hn:n<=1000) :
  Calls prog 28 #[.pointer (some ⟨p,0,none⟩),.int .i64 n] w (iN p w fun v w'=>LA w' w.heap.size n v):=by
 have hlt:=h.lt;have H:=zZ h;clear h;obtain⟨i0,hi0,hz0,hz1,hz2⟩:=info_parts Tryz.infoI;go_enter func28,ntmps28
 go_wp2_with fail;go_loopw [5,6] (fun v i wr=>∃(k:Nat) (l:List Int),i=.int .i64 k/\k<=n/\Hid (l.length=k/\wr.ownsRow w.heap.size 3 1 v k (l.map (Value.int .i64))/\l.Perm (pO k)/\bz wr p/\XT p w wr)) (fun _ i _=>n-(intOf i).toNat)
 case atStart=>exact⟨0,[],rfl,by omega,rfl,yZ _ _ _ _,wN _,H.out,XT.refl _ _⟩
 case round =>
  obtain⟨k,l,rfl,hk,HR⟩:=hrel;by_cases hkn:k<n
  ·obtain⟨hl,hown,hperm,htape,hxt⟩:=HR.out;have hI:ak p wr u5 l:=ak.of_own hown hlt (fun x hx=>by have:=yw (hperm.mem_iff.1 hx);exact⟨by omega,by omega⟩) (by omega);obtain⟨A,n',c,rfl,hnc,hc,hnn,HL⟩:=hI.open_;obtain rfl:n'=k:=by have:=HL.out;omega
   have HI:=zZ hI;have HT:=zZ htape;clear hl hown hperm htape hxt hI;go_wp2_with fail;refine (am p _ _ HT.out (by omega)).mono ?_;rintro e w2 ⟨v2,rfl,⟨r,rfl,hr1,hr2⟩,HT2,HX2⟩;obtain⟨r,rfl⟩:=zG hr1;have hrk:r<=n':=by omega
   have HI2:=zZ ((HI.out.xt HX2).take hrk);have HD2:=zZ ((HI.out.xt HX2).drop hrk);go_wp2_with (first
    |(at_builtin;refine dh _ rfl (.tmp 18) (.tmp 21) 22 rfl w2.heap.size 3 i0 _ 8 underlying22 hi0 hz0 hz1 hz2 rfl (.slice none 0 0) 0 [] rfl (yZ _ _ _ _) p A r c (l.take r) rfl HI2.out (by omega) (by omega) (zX _) ?_;intro v3 w3 hown3 hg3;have HE3:=zZ (ab.grown (zE w2) hg3 (by simp[Value.ownBlock]));have HO3:=zZ hown3;clear hown3 hg3)
    |(at_builtin;refine aF _ rfl (.tmp 23) (.tmp 25) 22 rfl w2.heap.size 3 i0 _ 8 underlying22 hi0 hz0 hz1 hz2 rfl v3 _ _ rfl (HO3.out.alloc _) _ _ rfl (by simp;rfl) rfl (by omega) (by omega) (by have:=HE3.out.size;simp;omega) ?_;intro v4 w4 hown4 hg4;have HE4:=zZ (ab.grown (HE3.out.alloc _) hg4 (aq HO3.out));have HO4:=zZ hown4;clear hown4 hg4)
    |(at_builtin;refine dh _ rfl (.tmp 27) (.tmp 30) 22 rfl w2.heap.size 3 i0 _ 8 underlying22 hi0 hz0 hz1 hz2 rfl v4 _ _ rfl HO4.out p _ (n'-r) (c-r) (l.drop r) rfl (HD2.out.ext HE4.out) (by omega) (by omega) (HE4.out.size) ?_;intro v5 w5 hown5 hg5;have HE5:=zZ (ab.grown HE4.out hg5 (aq HO4.out));have HO5:=zZ hown5;clear hown5 hg5))
   go_roundw
   case rel =>
    obtain⟨hl,hown,hperm,htape,hxt⟩:=HR.out;refine⟨n'+1,l.take r++[(n':Int)]++l.drop r,by go_num,by omega,by simp;omega,?_,F0 hperm,HT2.ext HE5.out,(hxt.trans HX2).ext HE5.out⟩;have h5:=cd HO5.out (base':=w.heap.size) (by have:=hxt.size;have:=HX2.size;omega);have e:0+r+1+(n'-r)=n'+1:=by omega
    rw[e]at h5;simpa using h5
   case measure=>simp[intOf];omega
  ·obtain rfl:k=n:=by omega
   go_wp2_with fail;go_ret
   obtain⟨hl,hown,hperm,htape,hxt⟩:=HR.out;exact⟨_,rfl,⟨l,by rw[hl];exact hown,hperm⟩,htape,hxt⟩
def KE(w:World)(base:Nat)(n:Nat)(v:Value):Prop :=
 ∃l:List Int,w.ownsRow base 3 1 v l.length (l.map (Value.int .i64))/\(∀x,x∈l↔0<=x/\x<(n:Int))/\l.length<=n+3
theorem Ig{x:Int}:x∈pO k↔0<=x/\x<k:=by
 constructor
 ·exact yw
 ·rintro⟨h1,h2⟩;obtain⟨j,rfl⟩:=zG h1;unfold pO;exact zF.2 ⟨j,yX.2 (by omega),rfl⟩
theorem Fi(p:Nat)(n:Nat)(w:World)(h:bz w p)(hn:n<=1000) :
  Calls prog 9 #[.pointer (some ⟨p,0,none⟩),.int .i64 n] w (iN p w fun v w'=>KE w' w.heap.size n v):=by
 have hlt:=h.lt;have H:=zZ h;clear h;obtain⟨i0,hi0,hz0,hz1,hz2⟩:=info_parts Tryz.infoI;go_enter func9,ntmps9
 go_wp2_with fail;refine (Ft p n _ H.out hn).mono ?_;rintro e w1 ⟨v1,rfl,⟨l0,ho0,hp0⟩,HT1,HX1⟩;have HO:Hid (w1.ownsRow w.heap.size 3 1 v1 l0.length (l0.map (Value.int .i64))/\(∀x,x∈l0↔0<=x/\x<(n:Int))/\l0.length=n):=⟨ho0,fun x=>by rw[hp0.mem_iff,Ig],by rw[hp0.length_eq];simp[pO]⟩
 clear ho0 hp0;go_wp2_with fail;refine (am p 4 _ HT1 (by omega)).mono ?_;rintro e w2 ⟨v2,rfl,⟨r0,rfl,hr01,hr02⟩,HT2,HX2⟩;have HS:Hid (bz w2 p/\XT p w w2/\w2.ownsRow w.heap.size 3 1 v1 l0.length (l0.map (Value.int .i64))):=⟨HT2,HX1.trans HX2,dD HO.out.1 HX2 hlt⟩
 have HM:Hid ((∀x,x∈l0↔0<=x/\x<(n:Int))/\l0.length=n):=HO.out.2;clear HO HT1 HX1 HT2 HX2;go_wp2_with fail;go_loopw [5,6] (fun v i wr=>∃(k:Nat) (l:List Int),i=.int .i64 k/\k<=3/\Hid (l.length+k<=n+3/\wr.ownsRow w.heap.size 3 1 v l.length (l.map (Value.int .i64))/\(∀x,x∈l↔0<=x/\x<(n:Int))/\bz wr p/\XT p w wr)) (fun _ i _=>(intOf i).toNat)
 case atStart=>exact⟨r0.toNat,l0,by congr;omega,by omega,by have:=HM.out.2;omega,HS.out.2.2,HM.out.1,HS.out.1,HS.out.2.1⟩
 case round =>
  obtain⟨k,l,rfl,hk,HR⟩:=hrel;clear HS HM;by_cases hk0:0<k
  ·by_cases hn0:0<n
   ·obtain⟨hl,hown,hmem,htape,hxt⟩:=HR.out;have hI:ak p wr u5 l:=ak.of_own hown hlt (fun x hx=>by have:=(hmem x).1 hx;exact⟨by omega,by omega⟩) (by omega);obtain⟨A,n',c,rfl,hnc,hc,hnn,HL⟩:=hI.open_;have hn':n'<=n+3:=by have:=HL.out;omega
    have hn'1:n'<=l.length:=by have:=HL.out;omega
    have hn'2:l.length<=n':=by have:=HL.out;omega
    have HI:=zZ hI;have HT:=zZ htape;clear hl hown hmem htape hxt hI;go_wp2_with fail;refine (am p _ _ HT.out (by omega)).mono ?_;rintro e w2 ⟨v2,rfl,⟨r,rfl,hr1,hr2⟩,HT2,HX2⟩;obtain⟨r,rfl⟩:=zG hr1;have hrk:r<=n':=by omega
    go_wp2_with fail;refine (am p n _ HT2 (by omega)).mono ?_;rintro e w3 ⟨v3,rfl,⟨y,rfl,hy1,hy2⟩,HT3,HX3⟩;have hyn:y<n:=by omega
    have HI2:=zZ (((HI.out.xt HX2).xt HX3).take hrk);have HD2:=zZ (((HI.out.xt HX2).xt HX3).drop hrk);have HX23:=zZ (HX2.trans HX3);clear HT2 HX2 HX3;go_wp2_with (first
     |(at_builtin;refine dh _ rfl (.tmp 31) (.tmp 34) 22 rfl w3.heap.size 3 i0 _ 8 underlying22 hi0 hz0 hz1 hz2 rfl (.slice none 0 0) 0 [] rfl (yZ _ _ _ _) p A r c (l.take r) rfl HI2.out (by omega) (by omega) (zX _) ?_;intro v4 w4 hown4 hg4;have HE4:=zZ (ab.grown (zE w3) hg4 (by simp[Value.ownBlock]));have HO4:=zZ hown4;clear hown4 hg4)
     |(at_builtin;refine aF _ rfl (.tmp 36) (.tmp 38) 22 rfl w3.heap.size 3 i0 _ 8 underlying22 hi0 hz0 hz1 hz2 rfl v4 _ _ rfl (HO4.out.alloc _) _ _ rfl (by simp;rfl) rfl (by omega) (by omega) (by have:=HE4.out.size;simp;omega) ?_;intro v5 w5 hown5 hg5;have HE5:=zZ (ab.grown (HE4.out.alloc _) hg5 (aq HO4.out));have HO5:=zZ hown5;clear hown5 hg5)
     |(at_builtin;refine dh _ rfl (.tmp 40) (.tmp 43) 22 rfl w3.heap.size 3 i0 _ 8 underlying22 hi0 hz0 hz1 hz2 rfl v5 _ _ rfl HO5.out p _ (n'-r) (c-r) (l.drop r) rfl (HD2.out.ext HE5.out) (by omega) (by omega) (HE5.out.size) ?_;intro v6 w6 hown6 hg6;have HE6:=zZ (ab.grown HE5.out hg6 (aq HO5.out));have HO6:=zZ hown6;clear hown6 hg6))
    go_roundw
    case rel =>
     obtain⟨hl,hown,hmem,htape,hxt⟩:=HR.out;refine⟨k-1,l.take r++[y]++l.drop r,by congr;omega,by omega,by simp;omega,?_,fun x=>?_,HT3.ext HE6.out,(hxt.trans HX23.out).ext HE6.out⟩
     ·have h5:=cd HO6.out (base':=w.heap.size) (by have:=hxt.size;have:=HX23.out.size;omega);have e:0+r+1+(n'-r)=(l.take r++[y]++l.drop r).length:=by simp;omega
      rw[e]at h5;simpa using h5
     ·have h1:x∈l.take r++[y]++l.drop r↔x∈l\/x=y:=by
       have hl:x∈l↔x∈l.take r\/x∈l.drop r:=by rw[<-zM,List.take_append_drop]
       rw[hl,zM,zM,uJ];constructor
       ·rintro ((h|h)|h)
        ·exact .inl (.inl h)
        ·exact .inr h
        ·exact .inl (.inr h)
       ·rintro ((h|h)|h)
        ·exact .inl (.inl h)
        ·exact .inr h
        ·exact .inl (.inr h)
      rw[h1,hmem];constructor
      ·rintro (h|rfl)
       ·exact h
       ·exact⟨by omega,by omega⟩
      ·exact .inl
    case measure=>simp[intOf];omega
   ·go_wp2_with fail;go_ret
    obtain⟨hl,hown,hmem,htape,hxt⟩:=HR.out;exact⟨_,rfl,⟨l,hown,hmem,by omega⟩,htape,hxt⟩
  ·go_wp2_with fail;go_ret
   obtain⟨hl,hown,hmem,htape,hxt⟩:=HR.out;exact⟨_,rfl,⟨l,hown,hmem,by omega⟩,htape,hxt⟩
def EB(p:Nat)(wa wx:World)(v:Value)(ol:List Int)(l:List aj)(k:Nat)(m:List aj):Prop :=
 ah wa.heap.size 41 13 (bR p wa) wx v m/\m.length=k/\(∀(j:Nat) c,m[j]?=some c->∃x,ol[j]?=some x/\l[x.toNat]?=some c)/\ab wa wx
section
variable {p k n:Nat} {w wa wx w':World} {v v':Value} {ol:List Int} {l m:List aj} {c:aj} {x:Int}
theorem EB.nil:EB p wa wa (.slice none 0 0) ol l 0 []:=⟨ah.nil,rfl,fun j c h=>by simp at h,zE _⟩
theorem EB.push(h:EB p wa wx v ol l k m)(ho:ah wa.heap.size 41 13 (bR p wa) w' v' (m++[c]))(hx:ab wa w')(h1:ol[k]?=some x)(h2:l[x.toNat]?=some c):EB p wa w' v' ol l (k+1) (m++[c]):=by
 refine⟨ho,by simp[h.2.1],fun j d hj=>?_,hx⟩;rcases zU j m.length with hl|hl
 ·rw[yY hl]at hj;exact h.2.2.1 j d hj
 ·rw[yL hl]at hj;have h3:j-m.length=0:=by have:=(zY.1 hj).1;simp at this;omega
  rw[h3]at hj;simp at hj;subst hj;obtain rfl:j=k:=by have:=h.2.1;omega
  exact⟨x,h1,h2⟩
theorem EB.isCs(h:EB p wa wx v ol l k m)(hp:p<wa.heap.size):au p wx v m:=h.1.isS (by decide) hp fun cs y hy=>bR.stab _ _ _ cs y hy h.2.2.2.xt
theorem EB.mem(h:EB p wa wx v ol l ol.length m)(ho:∀y,y∈ol↔0<=y/\y<(l.length:Int)):c∈m↔c∈l:=by
 constructor
 ·intro hc;obtain⟨j,hj⟩:=zH hc;obtain⟨y,-,h2⟩:=h.2.2.1 j c hj;exact zW h2
 ·intro hc;obtain⟨i,hi⟩:=zH hc;have hil:=(zY.1 hi).1;obtain⟨j,hj⟩:=zH ((ho (i:Int)).2 ⟨by omega,by omega⟩);have hjl:=(zY.1 hj).1;obtain⟨d,hd⟩:∃d,m[j]?=some d:=⟨_,zV (by have:=h.2.1;omega)⟩
  obtain⟨y,h1,h2⟩:=h.2.2.1 j d hd;rw[hj]at h1;injection h1 with h1;subst h1
  rw[yC,hi]at h2;injection h2 with h2;subst h2
  exact zW hd
theorem KE.isI(h:KE w k n v)(hp:p<k)(hn:n<=1000):∃(A:Option Addr) (no co:Nat) (ol:List Int),v=.slice A no co/\ak p w v ol/\ol.length=no/\no<=n+3/\∀y,y∈ol↔0<=y/\y<(n:Int):=by obtain⟨ol,h1,h2,h3⟩:=h;have h4:ak p w v ol:=ak.of_own h1 hp (fun y hy=>by have:=(h2 y).1 hy;constructor<;>omega) (by omega);obtain⟨A,no,co,rfl,-⟩:=h4.open_;exact⟨A,no,co,ol,rfl,h4,h4.len,by have:=h4.len;omega,h2⟩
end
end Go.Proofs.YtpaidaphacoblaaGreatDoor

