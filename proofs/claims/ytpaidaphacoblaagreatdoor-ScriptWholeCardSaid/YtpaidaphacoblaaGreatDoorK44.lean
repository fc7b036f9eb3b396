import Derived.Test.YtpaidaphacoblaaGreatDoorK37
import Derived.Test.YtpaidaphacoblaaGreatDoorK29
set_option linter.all false
set_option maxRecDepth 100000
set_option maxHeartbeats 0
namespace Go.Proofs.YtpaidaphacoblaaGreatDoor
open Go.Value renaming int→B
open Go.IntKind renaming i64→C
open Go.Shelf Go.Proofs
def jG:Go.Shelf.Ren:=⟨fun|6=>138|15=>72|14=>166|28=>111|29=>112|20=>185|21=>186|22=>187|23=>188|24=>189|25=>190|26=>191|27=>192|46=>202|47=>149|48=>150|49=>203|50=>204|57=>208|n=>n,fun|22=>22|24=>3|25=>67|3=>3|39=>147|0=>0|53=>185|55=>187|4=>4|46=>179|45=>178|50=>141|5=>5|9=>9|66=>217|70=>221|76=>244|77=>245|n=>n,fun|n=>n⟩
theorem BB:Go.Proofs.SlLaysF.n6 Tryz.prog jG:={
 mixed:=by kernel_rfl
 f6:=⟨Tryz.f138.name,by decide,Tryz.func138.trans (congrArg some (by kernel_rfl))⟩
 f14:=⟨Tryz.f166.name,by decide,Tryz.func166.trans (congrArg some (by kernel_rfl))⟩
 f15:=Tryz.func72.trans (congrArg some (by kernel_rfl))
 f20:=⟨Tryz.f185.name,by decide,Tryz.func185.trans (congrArg some (by kernel_rfl))⟩
 f21:=⟨Tryz.f186.name,by decide,Tryz.func186.trans (congrArg some (by kernel_rfl))⟩
 f22:=⟨Tryz.f187.name,by decide,Tryz.func187.trans (congrArg some (by kernel_rfl))⟩
 f23:=⟨Tryz.f188.name,by decide,Tryz.func188.trans (congrArg some (by kernel_rfl))⟩
 f24:=⟨Tryz.f189.name,by decide,Tryz.func189.trans (congrArg some (by kernel_rfl))⟩
 f25:=⟨Tryz.f190.name,by decide,Tryz.func190.trans (congrArg some (by kernel_rfl))⟩
 f26:=⟨Tryz.f191.name,by decide,Tryz.func191.trans (congrArg some (by kernel_rfl))⟩
 f27:=⟨Tryz.f192.name,by decide,Tryz.func192.trans (congrArg some (by kernel_rfl))⟩
 f28:=Tryz.func111.trans (congrArg some (by kernel_rfl))
 f29:=Tryz.func112.trans (congrArg some (by kernel_rfl))
 f46:=⟨Tryz.f202.name,by decide,Tryz.func202.trans (congrArg some (by kernel_rfl))⟩
 f47:=Tryz.func149.trans (congrArg some (by kernel_rfl))
 f48:=Tryz.func150.trans (congrArg some (by kernel_rfl))
 f49:=⟨Tryz.f203.name,by decide,Tryz.func203.trans (congrArg some (by kernel_rfl))⟩
 f50:=⟨Tryz.f204.name,by decide,Tryz.func204.trans (congrArg some (by kernel_rfl))⟩
 f57:=⟨Tryz.f208.name,by decide,Tryz.func208.trans (congrArg some (by kernel_rfl))⟩
 t0:=Tryz.underlying0
 a0:=Tryz.isAgg0
 z0:=Tryz.sizeOf0
 v0:=Tryz.zeroValue0
 t3:=Tryz.underlying3
 a3:=Tryz.isAgg3
 z3:=Tryz.sizeOf3
 v3:=Tryz.zeroValue3
 t4:=Tryz.underlying4
 a4:=Tryz.isAgg4
 z4:=Tryz.sizeOf4
 v4:=Tryz.zeroValue4
 t5:=Tryz.underlying5
 a5:=Tryz.isAgg5
 z5:=Tryz.sizeOf5
 v5:=Tryz.zeroValue5
 t9:=Tryz.underlying9
 a9:=Tryz.isAgg9
 z9:=Tryz.sizeOf9
 v9:=Tryz.zeroValue9
 t22:=Tryz.underlying22
 a22:=Tryz.isAgg22
 z22:=Tryz.sizeOf22
 v22:=Tryz.zeroValue22
 a24:=Tryz.isAgg3
 z24:=Tryz.sizeOf3
 t25:=Tryz.underlying67
 a25:=Tryz.isAgg67
 z25:=Tryz.sizeOf67
 v25:=Tryz.zeroValue67
 t39:=Tryz.underlying147
 a39:=Tryz.isAgg147
 z39:=Tryz.sizeOf147
 v39:=Tryz.zeroValue147
 t45:=Tryz.underlying178
 a45:=Tryz.isAgg178
 z45:=Tryz.sizeOf178
 v45:=Tryz.zeroValue178
 t46:=Tryz.underlying179
 a46:=Tryz.isAgg179
 z46:=Tryz.sizeOf179
 v46:=Tryz.zeroValue179
 t50:=Tryz.underlying141
 a50:=Tryz.isAgg141
 z50:=Tryz.sizeOf141
 v50:=Tryz.zeroValue141
 t53:=Tryz.underlying185
 a53:=Tryz.isAgg185
 z53:=Tryz.sizeOf185
 v53:=Tryz.zeroValue185
 t55:=Tryz.underlying187
 a55:=Tryz.isAgg187
 z55:=Tryz.sizeOf187
 v55:=Tryz.zeroValue187
 t66:=Tryz.underlying217
 a66:=Tryz.isAgg217
 z66:=Tryz.sizeOf217
 v66:=Tryz.zeroValue217
 t70:=Tryz.underlying221
 a70:=Tryz.isAgg221
 z70:=Tryz.sizeOf221
 v70:=Tryz.zeroValue221
 t76:=Tryz.underlying244
 a76:=Tryz.isAgg244
 z76:=Tryz.sizeOf244
 v76:=Tryz.zeroValue244
 t77:=Tryz.underlying245
 a77:=Tryz.isAgg245
 z77:=Tryz.sizeOf245
 v77:=Tryz.zeroValue245 }
def m6:Go.Shelf.Ren:=⟨fun|6=>36|15=>72|14=>71|28=>111|29=>112|20=>103|21=>104|22=>105|23=>106|24=>107|25=>108|26=>109|27=>110|46=>148|47=>149|48=>150|49=>151|50=>152|57=>174|n=>n,fun|22=>42|24=>103|25=>108|3=>3|39=>147|0=>0|53=>185|55=>187|4=>4|46=>179|45=>178|50=>141|5=>5|9=>9|66=>217|70=>221|76=>244|77=>245|n=>n,fun|n=>n⟩
theorem FR:Go.Proofs.SlLaysF0.n6 Tryz.prog m6:={
 mixed:=by kernel_rfl
 f6:=⟨Tryz.f36.name,by decide,Tryz.func36.trans (congrArg some (by kernel_rfl))⟩
 f14:=⟨Tryz.f71.name,by decide,Tryz.func71.trans (congrArg some (by kernel_rfl))⟩
 f15:=Tryz.func72.trans (congrArg some (by kernel_rfl))
 f20:=⟨Tryz.f103.name,by decide,Tryz.func103.trans (congrArg some (by kernel_rfl))⟩
 f21:=⟨Tryz.f104.name,by decide,Tryz.func104.trans (congrArg some (by kernel_rfl))⟩
 f22:=⟨Tryz.f105.name,by decide,Tryz.func105.trans (congrArg some (by kernel_rfl))⟩
 f23:=⟨Tryz.f106.name,by decide,Tryz.func106.trans (congrArg some (by kernel_rfl))⟩
 f24:=⟨Tryz.f107.name,by decide,Tryz.func107.trans (congrArg some (by kernel_rfl))⟩
 f25:=⟨Tryz.f108.name,by decide,Tryz.func108.trans (congrArg some (by kernel_rfl))⟩
 f26:=⟨Tryz.f109.name,by decide,Tryz.func109.trans (congrArg some (by kernel_rfl))⟩
 f27:=⟨Tryz.f110.name,by decide,Tryz.func110.trans (congrArg some (by kernel_rfl))⟩
 f28:=Tryz.func111.trans (congrArg some (by kernel_rfl))
 f29:=Tryz.func112.trans (congrArg some (by kernel_rfl))
 f46:=⟨Tryz.f148.name,by decide,Tryz.func148.trans (congrArg some (by kernel_rfl))⟩
 f47:=Tryz.func149.trans (congrArg some (by kernel_rfl))
 f48:=Tryz.func150.trans (congrArg some (by kernel_rfl))
 f49:=⟨Tryz.f151.name,by decide,Tryz.func151.trans (congrArg some (by kernel_rfl))⟩
 f50:=⟨Tryz.f152.name,by decide,Tryz.func152.trans (congrArg some (by kernel_rfl))⟩
 f57:=⟨Tryz.f174.name,by decide,Tryz.func174.trans (congrArg some (by kernel_rfl))⟩
 t0:=Tryz.underlying0
 a0:=Tryz.isAgg0
 z0:=Tryz.sizeOf0
 v0:=Tryz.zeroValue0
 t3:=Tryz.underlying3
 a3:=Tryz.isAgg3
 z3:=Tryz.sizeOf3
 v3:=Tryz.zeroValue3
 t4:=Tryz.underlying4
 a4:=Tryz.isAgg4
 z4:=Tryz.sizeOf4
 v4:=Tryz.zeroValue4
 t5:=Tryz.underlying5
 a5:=Tryz.isAgg5
 z5:=Tryz.sizeOf5
 v5:=Tryz.zeroValue5
 t9:=Tryz.underlying9
 a9:=Tryz.isAgg9
 z9:=Tryz.sizeOf9
 v9:=Tryz.zeroValue9
 t22:=Tryz.underlying42
 a22:=Tryz.isAgg42
 z22:=Tryz.sizeOf42
 v22:=Tryz.zeroValue42
 t25:=Tryz.underlying108
 a25:=Tryz.isAgg108
 z25:=Tryz.sizeOf108
 v25:=Tryz.zeroValue108
 t39:=Tryz.underlying147
 a39:=Tryz.isAgg147
 z39:=Tryz.sizeOf147
 v39:=Tryz.zeroValue147
 t45:=Tryz.underlying178
 a45:=Tryz.isAgg178
 z45:=Tryz.sizeOf178
 v45:=Tryz.zeroValue178
 t46:=Tryz.underlying179
 a46:=Tryz.isAgg179
 z46:=Tryz.sizeOf179
 v46:=Tryz.zeroValue179
 t50:=Tryz.underlying141
 a50:=Tryz.isAgg141
 z50:=Tryz.sizeOf141
 v50:=Tryz.zeroValue141
 t53:=Tryz.underlying185
 a53:=Tryz.isAgg185
 z53:=Tryz.sizeOf185
 v53:=Tryz.zeroValue185
 t55:=Tryz.underlying187
 a55:=Tryz.isAgg187
 z55:=Tryz.sizeOf187
 v55:=Tryz.zeroValue187
 t66:=Tryz.underlying217
 a66:=Tryz.isAgg217
 z66:=Tryz.sizeOf217
 v66:=Tryz.zeroValue217
 t70:=Tryz.underlying221
 a70:=Tryz.isAgg221
 z70:=Tryz.sizeOf221
 v70:=Tryz.zeroValue221
 t76:=Tryz.underlying244
 a76:=Tryz.isAgg244
 z76:=Tryz.sizeOf244
 v76:=Tryz.zeroValue244
 t77:=Tryz.underlying245
 a77:=Tryz.isAgg245
 z77:=Tryz.sizeOf245
 v77:=Tryz.zeroValue245 }
def mV:Go.Shelf.Ren:=⟨fun|6=>40|15=>72|14=>74|28=>111|29=>112|20=>113|21=>114|22=>115|23=>116|24=>117|25=>118|26=>119|27=>120|46=>153|47=>149|48=>150|49=>154|50=>155|57=>175|n=>n,fun|22=>43|24=>80|25=>110|3=>3|39=>147|0=>0|53=>185|55=>187|4=>4|46=>179|45=>178|50=>141|5=>5|9=>9|66=>217|70=>221|76=>244|77=>245|n=>n,fun|n=>n⟩
theorem Hb:Go.Proofs.SlLaysF0.n6 Tryz.prog mV:={
 mixed:=by kernel_rfl
 f6:=⟨Tryz.f40.name,by decide,Tryz.func40.trans (congrArg some (by kernel_rfl))⟩
 f14:=⟨Tryz.f74.name,by decide,Tryz.func74.trans (congrArg some (by kernel_rfl))⟩
 f15:=Tryz.func72.trans (congrArg some (by kernel_rfl))
 f20:=⟨Tryz.f113.name,by decide,Tryz.func113.trans (congrArg some (by kernel_rfl))⟩
 f21:=⟨Tryz.f114.name,by decide,Tryz.func114.trans (congrArg some (by kernel_rfl))⟩
 f22:=⟨Tryz.f115.name,by decide,Tryz.func115.trans (congrArg some (by kernel_rfl))⟩
 f23:=⟨Tryz.f116.name,by decide,Tryz.func116.trans (congrArg some (by kernel_rfl))⟩
 f24:=⟨Tryz.f117.name,by decide,Tryz.func117.trans (congrArg some (by kernel_rfl))⟩
 f25:=⟨Tryz.f118.name,by decide,Tryz.func118.trans (congrArg some (by kernel_rfl))⟩
 f26:=⟨Tryz.f119.name,by decide,Tryz.func119.trans (congrArg some (by kernel_rfl))⟩
 f27:=⟨Tryz.f120.name,by decide,Tryz.func120.trans (congrArg some (by kernel_rfl))⟩
 f28:=Tryz.func111.trans (congrArg some (by kernel_rfl))
 f29:=Tryz.func112.trans (congrArg some (by kernel_rfl))
 f46:=⟨Tryz.f153.name,by decide,Tryz.func153.trans (congrArg some (by kernel_rfl))⟩
 f47:=Tryz.func149.trans (congrArg some (by kernel_rfl))
 f48:=Tryz.func150.trans (congrArg some (by kernel_rfl))
 f49:=⟨Tryz.f154.name,by decide,Tryz.func154.trans (congrArg some (by kernel_rfl))⟩
 f50:=⟨Tryz.f155.name,by decide,Tryz.func155.trans (congrArg some (by kernel_rfl))⟩
 f57:=⟨Tryz.f175.name,by decide,Tryz.func175.trans (congrArg some (by kernel_rfl))⟩
 t0:=Tryz.underlying0
 a0:=Tryz.isAgg0
 z0:=Tryz.sizeOf0
 v0:=Tryz.zeroValue0
 t3:=Tryz.underlying3
 a3:=Tryz.isAgg3
 z3:=Tryz.sizeOf3
 v3:=Tryz.zeroValue3
 t4:=Tryz.underlying4
 a4:=Tryz.isAgg4
 z4:=Tryz.sizeOf4
 v4:=Tryz.zeroValue4
 t5:=Tryz.underlying5
 a5:=Tryz.isAgg5
 z5:=Tryz.sizeOf5
 v5:=Tryz.zeroValue5
 t9:=Tryz.underlying9
 a9:=Tryz.isAgg9
 z9:=Tryz.sizeOf9
 v9:=Tryz.zeroValue9
 t22:=Tryz.underlying43
 a22:=Tryz.isAgg43
 z22:=Tryz.sizeOf43
 v22:=Tryz.zeroValue43
 t25:=Tryz.underlying110
 a25:=Tryz.isAgg110
 z25:=Tryz.sizeOf110
 v25:=Tryz.zeroValue110
 t39:=Tryz.underlying147
 a39:=Tryz.isAgg147
 z39:=Tryz.sizeOf147
 v39:=Tryz.zeroValue147
 t45:=Tryz.underlying178
 a45:=Tryz.isAgg178
 z45:=Tryz.sizeOf178
 v45:=Tryz.zeroValue178
 t46:=Tryz.underlying179
 a46:=Tryz.isAgg179
 z46:=Tryz.sizeOf179
 v46:=Tryz.zeroValue179
 t50:=Tryz.underlying141
 a50:=Tryz.isAgg141
 z50:=Tryz.sizeOf141
 v50:=Tryz.zeroValue141
 t53:=Tryz.underlying185
 a53:=Tryz.isAgg185
 z53:=Tryz.sizeOf185
 v53:=Tryz.zeroValue185
 t55:=Tryz.underlying187
 a55:=Tryz.isAgg187
 z55:=Tryz.sizeOf187
 v55:=Tryz.zeroValue187
 t66:=Tryz.underlying217
 a66:=Tryz.isAgg217
 z66:=Tryz.sizeOf217
 v66:=Tryz.zeroValue217
 t70:=Tryz.underlying221
 a70:=Tryz.isAgg221
 z70:=Tryz.sizeOf221
 v70:=Tryz.zeroValue221
 t76:=Tryz.underlying244
 a76:=Tryz.isAgg244
 z76:=Tryz.sizeOf244
 v76:=Tryz.zeroValue244
 t77:=Tryz.underlying245
 a77:=Tryz.isAgg245
 z77:=Tryz.sizeOf245
 v77:=Tryz.zeroValue245 }
end Go.Proofs.YtpaidaphacoblaaGreatDoor

namespace Go.Proofs.YtpaidaphacoblaaGreatDoor
open Go.Value renaming int→B
open Go.IntKind renaming i64→C
open Go.RowKit Go.Lib Go.Sort
def gN(w w':World):Prop:=∃(q:Nat) (os:Array Obj),w'=Go.Sort.grow (w.drewN q) os
section
variable {w w1 w2:World}
theorem gN.refl(w:World):gN w w:=⟨0,#[],by rw[Go.Sort.grow_empty];rfl⟩
theorem gN.drew(h:gN w w1):gN w w1.drew:=by obtain⟨q,os,rfl⟩:=h;exact⟨q+1,os,rfl⟩
theorem gN.alloc(h:gN w w1)(o:Obj):gN w (w1.alloc o):=by obtain⟨q,os,rfl⟩:=h;exact⟨q,os++#[o],by rw[Go.Sort.alloc_eq_grow,Go.Sort.grow_grow]⟩
theorem gN.trans(h:gN w w1)(k:gN w1 w2):gN w w2:=by
 obtain⟨q,os,rfl⟩:=h;obtain⟨q',os',rfl⟩:=k;exact⟨q+q',os++os',by
  show Go.Sort.grow (Go.Sort.grow ((w.drewN q).drewN q') os) os'=_
  rw[Go.Sort.grow_grow,World.drewN_drewN]⟩
theorem gN.ext(h:gN w w1):ab w w1:=by
 obtain⟨q,os,rfl⟩:=h;exact⟨rfl,rfl,rfl,by simp[Go.Sort.grow],fun i hi=>by
  show ((w.drewN q).heap++os)[i]?=_
  rw[Array.getElem?_append_left (by show i<w.heap.size;omega)];rfl⟩
end
def nV(i:Nat):Value:=B C (i:Int)
theorem qX(N g:Nat)(cb:Array Value)(cf:Nat->Nat->Int)(v:Value)(ks:List Nat)(base:Nat)(w:World)(hn:ks.length<=1000000)(hk:∀k∈ks,k<N)(irr:∀x,x<N->¬cf x x<0)(tr:∀x y z,x<N->y<N->z<N->cf x y<0->cf y z<0->cf x z<0)(ntr:∀x y z,x<N->y<N->z<N->¬cf x y<0->¬cf y z<0->¬cf x z<0)(eg:∀args w,(callFunc g args).run Tryz.prog w=.ok (.enter g args) w)(hown:w.ownsRow base 3 1 v ks.length (ks.map nV))(hc:∀w1,w.grownBy w1 v.ownBlock->∀x y,x<N->y<N->Calls Tryz.prog g (#[B C (x:Int),B C (y:Int)]++cb) w1 fun e w2=>e=.returned (B C (cf x y))/\gN w1 w2) :
  Calls Tryz.prog 138 #[v,.func (.func g) #[] cb] w fun e w'=>e=.returned (.tuple #[])/\∃ks':List Nat,ks'.Perm ks/\(ks'.Pairwise fun a b=>¬cf b a<0)/\w'.ownsRow base 3 1 v ks.length (ks'.map nV)/\w.grownBy w' v.ownBlock:=by
 rcases vE ks.length with h0|h0
 ·obtain rfl:ks=[]:=xZ h0;obtain⟨A,c,rfl⟩:∃A c,v=.slice A 0 c:=by
   rcases hown.2 with ⟨e,_⟩|⟨g',cap,cur,e,_⟩
   ·exact⟨none,0,e⟩
   ·exact⟨_,_,e⟩
  refine (AnyF.slices_SortFunc_none (ρ:=jG) { BB with } A c (.func (.func g) #[] cb) w).mono ?_;rintro e w' ⟨rfl,rfl⟩;exact⟨rfl,[],wN _,xE,hown,uU _ _⟩
 ·obtain⟨k0,t,rfl⟩:∃k0 t,ks=k0::t:=by cases ks with
   |nil=>simp at h0
   |cons a b=>exact⟨a,b,rfl⟩
  have hN:0<N:=by have:=hk k0 (by simp);omega
  let α:={ k:Nat // k<N }
  haveI:Inhabited α:=⟨⟨0,hN⟩⟩
  let enc:α->Value:=fun x=>nV x.1
  obtain⟨xs,hxs⟩:∃xs:List α,xs.map (·.1)=k0::t:=⟨(k0::t).attach.map fun x=>⟨x.1,hk x.1 x.2⟩,by simp⟩
  generalize k0::t=ks at *
  have hen:ks.map nV=xs.map enc:=by rw[<-hxs,vY];rfl
  have hxl:xs.length=ks.length:=by rw[<-hxs];simp
  rw[hen]at hown;obtain⟨G,cap,rfl⟩:∃G cap,v=.slice (some ⟨G,0,none⟩) ks.length cap:=by
   rcases hown.2 with ⟨_,e⟩|⟨g',cap,cur,e,_⟩
   ·omega
   ·exact⟨_,_,e⟩
  obtain⟨hH,hb,_,hback⟩:=Hq enc hown;have hO:SWO (ltOf fun x y:α=>cf x.1 y.1):=⟨fun x=>by have:=irr x.1 x.2;simp[ltOf,this],fun x y z h1 h2=>by
   simp only[ltOf,decide_eq_true_eq]at *;exact tr _ _ _ x.2 y.2 z.2 h1 h2,fun x y z h1 h2=>by
   simp only[ltOf,decide_eq_false_iff_not]at *;exact ntr _ _ _ x.2 y.2 z.2 h1 h2⟩
  have hd:xs.toArray.size=ks.length:=by simp[hxl]
  have hcmp:CmpLays1 Tryz.prog g cb enc (fun x y:α=>cf x.1 y.1) G 0 xs.toArray.size w:=by intro m os dk hs x y;have:=hc _ (hback dk (by omega) m os).2 x.1 y.1 x.2 y.2;exact this
  have hs:=Any.slices_SortFunc (ρ:=jG) BB enc (fun _=>rfl) (fun x y:α=>cf x.1 y.1) hO g cb G 0 cap xs.toArray w eg hcmp hH hb (by omega);rw[hd]at hs;refine hs.mono ?_;rintro e w' ⟨rfl,d',n,os,hp,hsrt,rfl⟩;rw[<-hd]at hp hsrt;have hsz:d'.size=xs.toArray.size:=hp.1;have hpl:=D8 hp;rw[<-hsz]at hsrt;have hpw:=JU hsrt;obtain⟨h1,h2⟩:=hback d' (by omega) n os;refine⟨rfl,d'.toList.map (·.1),?_,?_,?_,h2⟩
  ·have:=hpl.map (·.1);simp only at this;rw[hxs]at this;exact this
  ·rw[uK];exact hpw.imp fun {a b} h=>by simpa[ltOf] using h
  ·rw[vY];exact h1
end Go.Proofs.YtpaidaphacoblaaGreatDoor

namespace Go.Proofs.YtpaidaphacoblaaGreatDoor
open Go.Value renaming int→B
open Go.IntKind renaming i64→C
open Go.RowKit
variable {ks:List Nat} {i k p:Nat}
def ef(S:List bN)(i:Nat):bN:=S[i]?.getD ⟨0,0,0⟩
def od(cl:List Int)(i:Nat):Int:=cl[i]?.getD 0
def gu(S:List bN)(i:Nat):gT:=⟨(ef S i).s,(ef S i).q⟩
def rZ(S:List bN)(i j:Nat):Bool:=et (gu S i) (gu S j)||(decide (gu S i=gu S j)&&decide (i<j))
def fU(S:List bN)(k:Nat):List Nat:=(List.range k).filter fun i=>dT (ef S i)
def qA(S:List bN)(cl:List Int)(F:List (Nat×Bool))(i:Nat):List (Nat×Bool):=match F.getLast? with
 |none=>F++[(i,false)]
 |some g=>if gu S g.1=gu S i then (if ef S g.1=ef S i/\od cl g.1=od cl i then F else F.dropLast++[(g.1,true)]) else F++[(i,false)]
def bZ(S:List bN)(cl:List Int)(ks:List Nat):List (Nat×Bool):=ks.foldl (qA S cl) []
def eN(F:List (Nat×Bool)):List Nat:=F.filterMap fun g=>if g.2 then none else some g.1
structure F6 (S:List bN) (cl:List Int) (ks:List Nat) (F:List (Nat×Bool)):Prop where
 asc:F.Pairwise fun a b=>et (gu S a.1) (gu S b.1)=true
 mem:∀g∈F,g.1∈ks/\(∀j∈ks,gu S j=gu S g.1->g.1<=j)/\(g.2=true↔∃j∈ks,gu S j=gu S g.1/\¬(ef S g.1=ef S j/\od cl g.1=od cl j))
 cov:∀j∈ks,∃g∈F,gu S g.1=gu S j
 top:∀g,F.getLast?=some g->∀j∈ks,gu S j=gu S g.1\/et (gu S j) (gu S g.1)=true
section
variable {S:List bN} {cl:List Int}
theorem iK(ks:List Nat)(i:Nat):bZ S cl (ks++[i])=qA S cl (bZ S cl ks) i:=by unfold bZ;rw[uR];rfl
theorem mM(a:gT):et a a=false:=qo.irr a
theorem F6.fresh{F:List (Nat×Bool)}(h:F6 S cl ks F)(hn:∀j∈ks,et (gu S j) (gu S i)=true):F6 S cl (ks++[i]) (F++[(i,false)]):=by
 have hne:∀j∈ks,gu S j≠gu S i:=fun j hj e=>by have:=hn j hj;rw[e,mM]at this;cases this
 refine⟨?_,fun g hg=>?_,fun j hj=>?_,fun g hg j hj=>?_⟩
 ·rw[xJ];refine⟨h.asc,wR _ _,fun a ha b hb=>?_⟩;obtain rfl:b=(i,false):=by simpa using hb
  exact hn a.1 (h.mem a ha).1
 ·rcases zM.1 hg with hg|hg
  ·obtain⟨h1,h2,h3⟩:=h.mem g hg;refine⟨xH _ h1,fun j hj e=>?_,?_⟩
   ·rcases zM.1 hj with hj|hj
    ·exact h2 j hj e
    ·obtain rfl:j=i:=by simpa using hj
     exact absurd e.symm (hne g.1 h1)
   ·rw[h3];constructor
    ·rintro⟨j,hj,h⟩;exact⟨j,xH _ hj,h⟩
    ·rintro⟨j,hj,e,h⟩;rcases zM.1 hj with hj|hj
     ·exact⟨j,hj,e,h⟩
     ·obtain rfl:j=i:=by simpa using hj
      exact absurd e.symm (hne g.1 h1)
  ·obtain rfl:g=(i,false):=by simpa using hg
   refine⟨by simp,fun j hj e=>?_,?_⟩
   ·rcases zM.1 hj with hj|hj
    ·exact absurd e (hne j hj)
    ·obtain rfl:j=i:=by simpa using hj
     exact zX _
   ·simp only[Bool.false_eq_true,false_iff];rintro⟨j,hj,e,h⟩;rcases zM.1 hj with hj|hj
    ·exact absurd e (hne j hj)
    ·obtain rfl:j=i:=by simpa using hj
     exact h ⟨rfl,rfl⟩
 ·rcases zM.1 hj with hj|hj
  ·obtain⟨g,hg,e⟩:=h.cov j hj;exact⟨g,xH _ hg,e⟩
  ·obtain rfl:j=i:=by simpa using hj
   exact⟨(j,false),by simp,rfl⟩
 ·obtain rfl:g=(i,false):=by simpa using hg.symm
  rcases zM.1 hj with hj|hj
  ·exact .inr (hn j hj)
  ·obtain rfl:j=i:=by simpa using hj
   exact .inl rfl
theorem KG:∀(ks:List Nat),ks.Pairwise (fun a b=>rZ S a b=true)->F6 S cl ks (bZ S cl ks):=by
 intro ks;induction ks using ic with
 |h0=>exact fun _=>⟨xE,fun g hg=>by simp[bZ]at hg,fun j hj=>by simp at hj,fun g _ j hj=>by simp at hj⟩
 |h1 ks i ih =>
  intro hp;obtain⟨p1,-,p3⟩:=xJ.1 hp;have hi:∀j∈ks,et (gu S j) (gu S i)=true\/(gu S j=gu S i/\j<i):=fun j hj=>by have:=p3 j hj i (by simp);unfold rZ at this;simpa using this
  have h:=ih p1;rw[iK];unfold qA;cases hl:(bZ S cl ks).getLast? with
  |none =>
   have hF:bZ S cl ks=[]:=List.getLast?_eq_none_iff.1 hl;have hks:ks=[]:=by
    cases hk:ks with
    |nil=>rfl
    |cons a t=>obtain⟨g,hg,_⟩:=h.cov a (by rw[hk];simp);rw[hF]at hg;simp at hg
   simp only;refine h.fresh fun j hj=>by rw[hks]at hj;simp at hj
  |some g =>
   simp only;obtain⟨F',hF⟩:∃F',bZ S cl ks=F'++[g]:=⟨_,(List.getLast?_eq_some_iff.1 hl).choose_spec⟩
   have hgm:g∈bZ S cl ks:=by rw[hF];simp
   obtain⟨g1,g2,g3⟩:=h.mem g hgm;by_cases e:gu S g.1=gu S i
   ·rw[if_pos e];have hgi:g.1<=i:=by
     rcases hi g.1 g1 with h'|h'
     ·rw[e,mM]at h';cases h'
     ·omega
    have key:∀b,(b=true↔∃j∈ks++[i],gu S j=gu S g.1/\¬(ef S g.1=ef S j/\od cl g.1=od cl j))->F6 S cl (ks++[i]) (F'++[(g.1,b)]):=by
     intro b hb;have ha:=h.asc;rw[hF,xJ]at ha;have hF':∀x∈F',et (gu S x.1) (gu S g.1)=true:=fun x hx=>ha.2.2 x hx g (by simp);refine⟨?_,fun x hx=>?_,fun j hj=>?_,fun x hx j hj=>?_⟩
     ·rw[xJ];refine⟨ha.1,wR _ _,fun a ha b hb=>?_⟩;obtain rfl:=by simpa using hb
      exact hF' a ha
     ·rcases zM.1 hx with hx|hx
      ·obtain⟨x1,x2,x3⟩:=h.mem x (by rw[hF];exact xH _ hx);have hne:gu S i≠gu S x.1:=fun e'=>by have:=hF' x hx;rw[e,e',mM]at this;cases this
       refine⟨xH _ x1,fun j hj e'=>?_,?_⟩
       ·rcases zM.1 hj with hj|hj
        ·exact x2 j hj e'
        ·obtain rfl:j=i:=by simpa using hj
         exact absurd e' hne
       ·rw[x3];constructor
        ·rintro⟨j,hj,h⟩;exact⟨j,xH _ hj,h⟩
        ·rintro⟨j,hj,e',h⟩;rcases zM.1 hj with hj|hj
         ·exact⟨j,hj,e',h⟩
         ·obtain rfl:j=i:=by simpa using hj
          exact absurd e' hne
      ·obtain rfl:x=(g.1,b):=by simpa using hx
       refine⟨xH _ g1,fun j hj e'=>?_,hb⟩;rcases zM.1 hj with hj|hj
       ·exact g2 j hj e'
       ·obtain rfl:j=i:=by simpa using hj
        exact hgi
     ·have hcov:∀j',gu S j'=gu S g.1->∃g'∈F'++[(g.1,b)],gu S g'.1=gu S j':=fun j' e'=>⟨(g.1,b),by simp,e'.symm⟩
      rcases zM.1 hj with hj|hj
      ·obtain⟨x,hx,ex⟩:=h.cov j hj;rw[hF]at hx;rcases zM.1 hx with hx|hx
       ·exact⟨x,xH _ hx,ex⟩
       ·obtain rfl:x=g:=by simpa using hx
        exact hcov j ex.symm
      ·obtain rfl:j=i:=by simpa using hj
       exact hcov j e.symm
     ·obtain rfl:x=(g.1,b):=by simpa using hx.symm
      rcases zM.1 hj with hj|hj
      ·exact h.top g hl j hj
      ·obtain rfl:j=i:=by simpa using hj
       exact .inl e.symm
    by_cases hs:ef S g.1=ef S i/\od cl g.1=od cl i
    ·rw[if_pos hs];have:=key g.2 (by
      rw[g3];constructor
      ·rintro⟨j,hj,h⟩;exact⟨j,xH _ hj,h⟩
      ·rintro⟨j,hj,e',h⟩;rcases zM.1 hj with hj|hj
       ·exact⟨j,hj,e',h⟩
       ·obtain rfl:j=i:=by simpa using hj
        exact absurd hs h)
     rw[hF];exact this
    ·rw[if_neg hs];have:=key true (by simp only[true_iff];exact⟨i,by simp,e.symm,hs⟩);rw[hF,List.dropLast_concat];exact this
   ·rw[if_neg e];refine h.fresh fun j hj=>?_;have hlt:et (gu S g.1) (gu S i)=true:=by
     rcases hi g.1 g1 with h'|h'
     ·exact h'
     ·exact absurd h'.1 e
    rcases h.top g hl j hj with h'|h'
    ·rw[h'];exact hlt
    ·exact qo.tr _ _ _ h' hlt
theorem mI{a:bN}(h:S[i]?=some a):ef S i=a:=by unfold ef;rw[h];rfl
theorem i8(h:i<S.length):S[i]?=some (ef S i):=by unfold ef;rw[zV h];rfl
theorem DO(h:i<cl.length):cl[i]?=some (od cl i):=by unfold od;rw[zV h];rfl
theorem jS{j:Nat}:gu S i=gu S j↔(ef S i).s=(ef S j).s/\(ef S i).q=(ef S j).q:=by unfold gu;rw[gT.eq_iff]
theorem ov:i∈fU S k↔i<k/\dT (ef S i)=true:=by unfold fU;rw[xR,yX]
theorem jN(hl:cl.length=S.length)(hp:ks.Perm (fU S S.length))(ha:ks.Pairwise (fun a b=>rZ S a b=true)) :
  i∈eN (bZ S cl ks)↔i<S.length/\iR S cl i=true:=by
 have G:=KG (cl:=cl) ks ha;have hm:∀j,j∈ks↔j<S.length/\dT (ef S j)=true:=fun j=>by rw[hp.mem_iff,ov]
 have hag:∀i j,i<S.length->j<S.length->Gg S cl i j=(dT (ef S j)&&(iz (ef S i) (ef S j) (od cl i) (od cl j)||(decide (j<i)&&decide (ef S j=ef S i)))) :=
  fun i j hi hj=>jU (i8 hi) (i8 hj) (DO (by omega)) (DO (by omega))
 unfold eN;rw[List.mem_filterMap];constructor
 ·rintro⟨g,hg,he⟩;obtain⟨g1,g2,g3⟩:=G.mem g hg;cases hd:g.2 with
  |true=>rw[hd]at he;simp at he
  |false =>
   rw[hd]at he g3;obtain rfl:g.1=i:=by simpa using he
   obtain⟨k1,k2⟩:=(hm g.1).1 g1;refine⟨k1,(gR (i8 k1)).2 ⟨k2,fun j hj=>?_⟩⟩;rw[hag _ _ k1 hj];cases hv:dT (ef S j) with
   |false=>rfl
   |true =>
    have hjk:=(hm j).2 ⟨hj,hv⟩;rw[yK,vU];constructor
    ·unfold iz;rw[decide_eq_false_iff_not];rintro⟨e1,e2,e3⟩;have hn:¬(ef S g.1=ef S j/\od cl g.1=od cl j):=by
      rintro⟨q1,q2⟩;rw[q1]at e3;rcases e3 with e3|e3
      ·exact e3 rfl
      ·exact e3 q2
     have:=g3.2 ⟨j,hjk,jS.2 ⟨e1.symm,e2.symm⟩,hn⟩;cases this
    ·by_cases hji:j<g.1
     ·rw[decide_eq_true hji,yK,decide_eq_false_iff_not];intro e;have:=g2 j hjk (jS.2 ⟨by rw[e],by rw[e]⟩);omega
     ·rw[decide_eq_false hji];rfl
 ·rintro⟨hi,hc⟩;obtain⟨c1,c2⟩:=(gR (i8 hi)).1 hc;obtain⟨g,hg,e⟩:=G.cov i ((hm i).2 ⟨hi,c1⟩);obtain⟨g1,g2,g3⟩:=G.mem g hg;have hgl:=(hm g.1).1 g1;have hle:=g2 i ((hm i).2 ⟨hi,c1⟩) e.symm;have no:∀j,j<S.length->dT (ef S j)=true->gu S i=gu S j->ef S i=ef S j/\od cl i=od cl j/\¬j<i:=by
   intro j hj hv hid;have:=c2 j hj;rw[hag _ _ hi hj,hv,yK,vU]at this;obtain⟨t1,t2⟩:=this;unfold iz at t1;rw[decide_eq_false_iff_not]at t1;obtain⟨i1,i2⟩:=jS.1 hid;have ht:(ef S i).t=(ef S j).t:=by
    by_cases e:(ef S i).t=(ef S j).t
    ·exact e
    ·exact absurd ⟨i1,i2,.inl e⟩ t1
   have hk:od cl i=od cl j:=by
    by_cases e:od cl i=od cl j
    ·exact e
    ·exact absurd ⟨i1,i2,.inr e⟩ t1
   have hs:ef S i=ef S j:=(bN.eq_iff _ _).2 ⟨ht,i1,i2⟩;refine⟨hs,hk,fun hji=>?_⟩;rw[decide_eq_true hji,hs,decide_eq_true rfl]at t2;cases t2
  have hgi:g.1=i:=by have:=(no g.1 hgl.1 hgl.2 e.symm).2.2;omega
  refine⟨g,hg,?_⟩;have hd:g.2=false:=by
   cases hd:g.2 with
   |false=>rfl
   |true =>
    obtain⟨j,hj,e',hn⟩:=g3.1 hd;obtain⟨j1,j2⟩:=(hm j).1 hj;rw[hgi]at e' hn;obtain⟨q1,q2,_⟩:=no j j1 j2 e'.symm;exact absurd ⟨q1,q2⟩ hn
  rw[hd,hgi];rfl
theorem mQ(ha:ks.Pairwise (fun a b=>rZ S a b=true)):(eN (bZ S cl ks)).Nodup:=by
 have G:=KG (cl:=cl) ks ha;unfold eN List.Nodup;rw[List.pairwise_filterMap];refine G.asc.imp fun {a b} h x hx y hy=>?_;split at hx
 ·cases hx
 ·split at hy
  ·cases hy
  ·injection hx with hx;injection hy with hy;subst hx;subst hy;intro e;rw[e,mM]at h;cases h
theorem BY(hl:cl.length=S.length)(hp:ks.Perm (fU S S.length))(ha:ks.Pairwise (fun a b=>rZ S a b=true)) :
  ((eN (bZ S cl ks)).map fun i:Nat=>(i:Int)).Perm (kh S cl S.length):=by
 unfold kh;refine List.Perm.map _ ((List.perm_ext_iff_of_nodup (mQ ha) (List.Nodup.sublist List.filter_sublist List.nodup_range)).2 fun i=>?_);rw[jN hl hp ha,xR,yX]
end
def Df(l:List aj)(cls:List Int):Prop:=cls.length=l.length/\∀(i:Nat) (a:aj),l[i]?=some a->∃(c:Nat) (b:aj),c<=i/\l[c]?=some b/\b.st=a.st/\(∀(j:Nat) (d:aj),j<c->l[j]?=some d->d.st≠a.st)/\cls[i]?=some (if b=a then 0 else 1)
theorem BC{l:List aj}{cls:List Int}(hc:Df l cls){a:aj}(ha:l[i]?=some a):iR (l.map aj.st) cls i=true↔qC l a=true/\∀j,j<i->l[j]?≠some a:=by
 have hil:=(zY.1 ha).1;have hst:(l.map aj.st)[i]?=some a.st:=by simp[ha]
 obtain⟨ci,bi,hci,hbi,hsi,hni,hxi⟩:=hc.2 i a ha;rw[gR hst,eu];constructor
 ·rintro⟨h1,h2⟩;have hfirst:ci=i:=by
   rcases zU ci i with hlt|hge
   ·have hcl:=(zY.1 hbi).1;have hag:=h2 ci (by simpa using hcl);obtain⟨_,_,_,_,_,_,hxc⟩:=hc.2 ci bi hbi;rw[jU hst (b:=bi.st) (by simp[hbi]) hxi hxc,hsi,h1,yK,vU]at hag;have:=hag.2;rw[decide_eq_true hlt,decide_eq_true rfl]at this;cases this
   ·omega
  subst hfirst;rw[ha]at hbi;injection hbi with hbi;subst hbi;refine⟨⟨h1,fun d hd hv hid=>?_⟩,fun j hj e=>hni j a hj e rfl⟩;obtain⟨k,hk⟩:=zH hd;have hkl:=(zY.1 hk).1;obtain⟨ck,bk,hck,hbk,hsk,hnk,hxk⟩:=hc.2 k d hk;have hag:=h2 k (by simpa using hkl);rw[jU hst (b:=d.st) (by simp[hk]) hxi hxk,hv,yK,vU]at hag;have h3:=hag.1;unfold iz at h3;rw[decide_eq_false_iff_not]at h3;have hid':d.st.s=a.st.s/\d.st.q=a.st.q:=by unfold aj.id at hid;rw[gT.eq_iff]at hid;exact hid
  have ht:a.st.t=d.st.t:=by
   by_cases e:a.st.t=d.st.t
   ·exact e
   ·exact absurd ⟨hid'.1.symm,hid'.2.symm,.inl e⟩ h3
  have hda:d.st=a.st:=(bN.eq_iff _ _).2 ⟨ht.symm,hid'.1,hid'.2⟩;have hcc:ck=ci:=by
   rcases xO ck ci with h|h|h
   ·exact absurd (hsk.trans hda) (hni ck bk h hbk)
   ·exact h
   ·exact absurd hda.symm (hnk ci a h ha)
  subst hcc;rw[ha]at hbk;injection hbk with hbk;subst hbk;by_cases e:a=d
  ·exact e.symm
  ·have hne:(if a=a then (0:Int) else 1)≠(if a=d then 0 else 1):=by rw[if_pos rfl,if_neg e];decide
   exact absurd ⟨hid'.1.symm,hid'.2.symm,.inr hne⟩ h3
 ·rintro⟨⟨h1,h2⟩,h3⟩;refine⟨h1,fun k hk=>?_⟩;have hkl:k<l.length:=by simpa using hk
  have hd:l[k]?=some (l[k]'hkl):=zV _;generalize l[k]'hkl=d at hd;obtain⟨ck,bk,hck,hbk,hsk,hnk,hxk⟩:=hc.2 k d hd;rw[jU hst (b:=d.st) (by simp[hd]) hxi hxk];cases hv:dT d.st with
  |false=>rfl
  |true =>
   rw[yK,vU];have key:∀(x:Nat) (y:aj),l[x]?=some y->dT y.st=true->y.id=a.id->y=a:=fun x y hx=>h2 y (zW hx);constructor
   ·unfold iz;rw[decide_eq_false_iff_not];rintro⟨e1,e2,e3⟩;have e4:=key k d hd hv (by unfold aj.id;rw[gT.eq_iff];exact⟨e1.symm,e2.symm⟩);subst e4;have ebi:bi=d:=key ci bi hbi (by rw[hsi];exact h1) (by unfold aj.id;rw[hsi]);have ebk:bk=d:=key ck bk hbk (by rw[hsk];exact h1) (by unfold aj.id;rw[hsk]);rw[ebi,ebk]at e3;rcases e3 with e3|e3<;>exact e3 rfl
   ·by_cases hki:k<i
    ·rw[decide_eq_true hki,yK,decide_eq_false_iff_not];intro e;have e4:=key k d hd hv (by unfold aj.id;rw[e]);exact h3 k hki (by rw[hd,e4])
    ·rw[decide_eq_false hki];rfl
theorem Hv{α:Type}{l:List α}{a:α}(h:a∈l):∃i:Nat,l[i]?=some a/\∀j:Nat,j<i->l[j]?≠some a:=by
 induction l with
 |nil=>simp at h
 |cons x t ih =>
  by_cases e:x=a
  ·exact⟨0,by simp[e],fun j hj=>by omega⟩
  ·obtain⟨i,h1,h2⟩:=ih (by rcases yM.1 h with h|h;exact absurd h.symm e;exact h);refine⟨i+1,by simpa using h1,fun j hj=>?_⟩;match j with
   |0=>simpa using e
   |j+1=>simpa using h2 j (by omega)
theorem Ew{l:List aj}{cls:List Int}(hc:Df l cls){out:List Int}(h:eQ (l.map aj.st) cls l.length out):eM l out=ay l:=by
 refine ir ?_ fun a=>?_
 ·unfold iT eM;rw[List.pairwise_filterMap];refine h.asc.imp_of_mem fun {x y} hx hy hxy a ha b hb=>?_;obtain⟨i,rfl,_,_⟩:=h.mem.1 hx;obtain⟨j,rfl,_,_⟩:=h.mem.1 hy;rw[yC]at ha hb;rw[pi (a:=a.st) (b:=b.st) (by simp[ha]) (by simp[hb])]at hxy;exact hxy
 ·unfold eM;rw[List.mem_filterMap];constructor
  ·rintro⟨x,hx,ha⟩;obtain⟨i,rfl,hi,hci⟩:=h.mem.1 hx;rw[yC]at ha;exact⟨zW ha,((BC hc ha).1 hci).1⟩
  ·rintro⟨hm,hcn⟩;obtain⟨i,hi,hn⟩:=Hv hm;exact⟨(i:Int),h.mem.2 ⟨i,rfl,(zY.1 hi).1,(BC hc hi).2 ⟨hcn,hn⟩⟩,by rw[yC];exact hi⟩
open _root_.Go.Proofs.Tryz
theorem mT(t s q:Int)(w:World) :
  Calls prog 163 #[.agg #[B C t,B C s,B C q]] w fun e w'=>e=.returned (.bool (dT ⟨t,s,q⟩))/\ab w w':=by
 go_enter func163,ntmps163
 go_wp2
 all_goals (go_ret;exact⟨aa (by first|(simp[dT];omega)|(rw[yE];simp[dT];omega)),(zE _).alloc _⟩)
theorem Jn(x y z:Int)(w:World)(g:Nat)(hx:-1<=x/\x<=1)(hy:-1<=y/\y<=1)(hz:-1<=z/\z<=1)(h:Bk w g #[B C x,B C y,B C z] 3):Calls prog 38 #[.slice (some ⟨g,0,none⟩) 3 3] w fun e w'=>e=.returned (B C (([x,y,z].find? nz).getD 0))/\w=w':=by
 refine GS (p:=g+1) _ [x,y,z] w ⟨some ⟨g,0,none⟩,3,rfl,zX _,by decide,by simp,fun u hu=>?_,fun k u hu=>?_⟩
 ·simp only[yM,wL,or_false]at hu;rcases hu with rfl|rfl|rfl<;>constructor<;>omega
 ·match k,hu with
  |0,hu=>simp at hu;subst hu;exact⟨g,0,rfl,by omega,h.c 0 rfl⟩
  |1,hu=>simp at hu;subst hu;exact⟨g,0,rfl,by omega,h.c 1 rfl⟩
  |2,hu=>simp at hu;subst hu;exact⟨g,0,rfl,by omega,h.c 2 rfl⟩
  |k+3,hu=>simp at hu
theorem IC(a b:bN):(([bg a.t b.t,bg a.s b.s,bg a.q b.q]:List Int).find? nz).getD 0=me a b:=by
 unfold me nz;by_cases h:bg a.t b.t=0
 ·by_cases h2:bg a.s b.s=0
  ·by_cases h3:bg a.q b.q=0<;>simp[h,h2,h3]
  ·simp[h,h2]
 ·simp[h]
theorem Jj(a b c d:Int):-1<=eR a b c d/\eR a b c d<=1:=by rcases cT a b c d with ⟨_,h⟩|⟨_,h⟩|⟨_,h⟩<;>omega
theorem sE(t s q t' s' q':Int)(w:World) :
  Calls prog 165 #[.agg #[B C t,B C s,B C q],.agg #[B C t',B C s',B C q']] w fun e w'=>e=.returned (B C (eR s q s' q'))/\gN w w':=by
 go_enter func165,ntmps165
 go_upto_region 1 with (fail)
 obtain⟨w1,hw1⟩:=nm (((w.alloc (.cells #[B C t,B C s,B C q] 35)).alloc (.cells #[B C t',B C s',B C q'] 35)):World);have HF:Bx (aA w w1 [(w.heap.size,#[B C t,B C s,B C q],35),(w.heap.size+1,#[B C t',B C s',B C q'],35)]):=⟨by rw[hw1];exact ((aA.start w).push _ _ rfl).push _ _ (by simp)⟩
 have HL:Bx (gN w w1):=⟨by rw[hw1];exact ((gN.refl _).alloc _).alloc _⟩
 rw[<-hw1];clear hw1;obtain⟨a0,a1,a2⟩:=(HF.out.at_ 0 rfl).p3 rfl;obtain⟨b0,b1,b2⟩:=(HF.out.at_ 1 rfl).p3 rfl;refine zR 12 (fun w'=>gN w1 w') ?_;have kS:(fun w'=>gN w1 w') w1.drew:=(gN.refl _).drew;have kD:ab w1 w1.drew:=(zE _).drew;obtain⟨wd,hwd⟩:=nm (w1.drew:World);rw[<-hwd]at kS kD⊢;clear hwd;refine zS 8 [(0,5),(1,6),(2,7),(3,8),(5,10),(6,11),(7,12),(8,13)] kS ?_;iterate 8 refine zT ?_ (y:=by intro wk hk;(replace a0:=hk.ext.cell a0);(replace a1:=hk.ext.cell a1);(replace a2:=hk.ext.cell a2);(replace b0:=hk.ext.cell b0);(replace b1:=hk.ext.cell b1);(replace b2:=hk.ext.cell b2);go_simp;try with_reducible rfl)
 refine zN (zO 4 (fun K hK=>?_));go_simp;refine (fN s s' _).mono ?_;rintro e w2 ⟨rfl,rfl⟩;refine hK.out _ _ (fun _=>kS) ?_;clear hK K;try simp only[kA]
 refine zO 9 (fun K hK=>?_);go_simp;refine (fN q q' _).mono ?_;rintro e w2 ⟨rfl,rfl⟩;refine hK.out _ _ (fun _=>kS) ?_;clear hK K;try simp only[kA]
 refine zO 10 (fun K hK=>?_);go_simp;obtain⟨gb,hgb⟩:=nm wd.heap.size;obtain⟨w3,hw3⟩:=nm ((wd.alloc (.cells #[B C (bg s s'),B C (bg q q')] 3)):World);have HB:Bx (Bk w3 gb #[B C (bg s s'),B C (bg q q')] 3):=⟨by rw[hw3,hgb];exact Bk.new _ _ _⟩
 have kS3:gN w1 w3:=by rw[hw3];exact kS.alloc _
 rw[<-hw3,<-hgb];clear hw3 hgb;refine hK.out _ _ (fun _=>kS3) ?_;clear hK K;try simp only[kA]
 refine zO 11 (fun K hK=>?_);go_simp;refine (qd _ _ _ _ 2 (gC _ _) (gC _ _) HB.out).mono ?_;rintro e w2 ⟨rfl,rfl⟩;rw[uw];refine hK.out _ _ (fun _=>kS3) ?_;clear hK K;try simp only[kA]
 refine zO 12 (fun K hK=>?_);go_simp;refine hK.out _ _ (fun h=>absurd rfl h) ?_;clear hK K;refine zD ?_;go_wp2_with fail;go_ret
 exact⟨rfl,HL.out.trans kS3⟩
theorem Dh(t s q t' s' q':Int)(w:World) :
  Calls prog 140 #[.agg #[B C t,B C s,B C q],.agg #[B C t',B C s',B C q']] w fun e w'=>e=.returned (B C (me ⟨t,s,q⟩ ⟨t',s',q'⟩))/\gN w w':=by
 go_enter func140,ntmps140
 go_upto_region 1 with (fail)
 obtain⟨w1,hw1⟩:=nm (((w.alloc (.cells #[B C t,B C s,B C q] 35)).alloc (.cells #[B C t',B C s',B C q'] 35)):World);have HF:Bx (aA w w1 [(w.heap.size,#[B C t,B C s,B C q],35),(w.heap.size+1,#[B C t',B C s',B C q'],35)]):=⟨by rw[hw1];exact ((aA.start w).push _ _ rfl).push _ _ (by simp)⟩
 have HL:Bx (gN w w1):=⟨by rw[hw1];exact ((gN.refl _).alloc _).alloc _⟩
 rw[<-hw1];clear hw1;obtain⟨a0,a1,a2⟩:=(HF.out.at_ 0 rfl).p3 rfl;obtain⟨b0,b1,b2⟩:=(HF.out.at_ 1 rfl).p3 rfl;have hor:=IC ⟨t,s,q⟩ ⟨t',s',q'⟩;simp only at hor;have HOR:=zZ hor;clear hor;refine zR 17 (fun w'=>gN w1 w') ?_;have kS:(fun w'=>gN w1 w') w1.drew:=(gN.refl _).drew;have kD:ab w1 w1.drew:=(zE _).drew;obtain⟨wd,hwd⟩:=nm (w1.drew:World);rw[<-hwd]at kS kD⊢;clear hwd;refine zS 12 [(0,5),(1,6),(2,7),(3,8),(5,10),(6,11),(7,12),(8,13),(10,15),(11,16),(12,17),(13,18)] kS ?_;iterate 12 refine zT ?_ (y:=by intro wk hk;(replace a0:=hk.ext.cell a0);(replace a1:=hk.ext.cell a1);(replace a2:=hk.ext.cell a2);(replace b0:=hk.ext.cell b0);(replace b1:=hk.ext.cell b1);(replace b2:=hk.ext.cell b2);go_simp;try with_reducible rfl)
 refine zN (zO 4 (fun K hK=>?_));go_simp;refine (fN t t' _).mono ?_;rintro e w2 ⟨rfl,rfl⟩;refine hK.out _ _ (fun _=>kS) ?_;clear hK K;try simp only[kA]
 refine zO 9 (fun K hK=>?_);go_simp;refine (fN s s' _).mono ?_;rintro e w2 ⟨rfl,rfl⟩;refine hK.out _ _ (fun _=>kS) ?_;clear hK K;try simp only[kA]
 refine zO 14 (fun K hK=>?_);go_simp;refine (fN q q' _).mono ?_;rintro e w2 ⟨rfl,rfl⟩;refine hK.out _ _ (fun _=>kS) ?_;clear hK K;try simp only[kA]
 refine zO 15 (fun K hK=>?_);go_simp;obtain⟨gb,hgb⟩:=nm wd.heap.size;obtain⟨w3,hw3⟩:=nm ((wd.alloc (.cells #[B C (bg t t'),B C (bg s s'),B C (bg q q')] 3)):World);have HB:Bx (Bk w3 gb #[B C (bg t t'),B C (bg s s'),B C (bg q q')] 3):=⟨by rw[hw3,hgb];exact Bk.new _ _ _⟩
 have kS3:gN w1 w3:=by rw[hw3];exact kS.alloc _
 rw[<-hw3,<-hgb];clear hw3 hgb;refine hK.out _ _ (fun _=>kS3) ?_;clear hK K;try simp only[kA]
 refine zO 16 (fun K hK=>?_);go_simp;refine (Jn _ _ _ _ _ (gC _ _) (gC _ _) (gC _ _) HB.out).mono ?_;rintro e w2 ⟨rfl,rfl⟩;rw[HOR.out];refine hK.out _ _ (fun _=>kS3) ?_;clear hK K;try simp only[kA]
 refine zO 17 (fun K hK=>?_);go_simp;refine hK.out _ _ (fun h=>absurd rfl h) ?_;clear hK K;refine zD ?_;go_wp2_with fail;go_ret
 exact⟨rfl,HL.out.trans kS3⟩
abbrev iq (p:Nat):World->Value->List bN->Prop:=bj p 3 oT
def oD(S:List bN)(i k:Nat):Int:=if eR (ef S i).s (ef S i).q (ef S k).s (ef S k).q≠0 then eR (ef S i).s (ef S i).q (ef S k).s (ef S k).q else bg (i:Int) (k:Int)
def se(S:List bN)(i k:Nat):Int:=me (ef S i) (ef S k)
theorem jM(S:List bN)(i k:Nat):(rZ S i k=true/\oD S i k<0)\/(i=k/\oD S i k=0)\/(rZ S k i=true/\0<oD S i k):=by
 have e:∀x y,rZ S x y=true↔((ef S x).s<(ef S y).s\/((ef S x).s=(ef S y).s/\(ef S x).q<(ef S y).q))\/(((ef S x).s=(ef S y).s/\(ef S x).q=(ef S y).q)/\x<y):=fun x y=>by unfold rZ et;rw[Bool.or_eq_true,yT,decide_eq_true_eq,decide_eq_true_eq,decide_eq_true_eq,jS];rfl
 rw[e,e];unfold oD;rcases cT (ef S i).s (ef S i).q (ef S k).s (ef S k).q with ⟨h,e'⟩|⟨h,e'⟩|⟨h,e'⟩<;>rw[e']
 ·exact .inl ⟨.inl h,by simp⟩
 ·rcases bJ (i:Int) (k:Int) with ⟨g,f⟩|⟨g,f⟩|⟨g,f⟩<;>rw[f]
  ·exact .inl ⟨.inr ⟨h,by omega⟩,by simp⟩
  ·exact .inr (.inl ⟨by omega,by simp⟩)
  ·exact .inr (.inr ⟨.inr ⟨⟨h.1.symm,h.2.symm⟩,by omega⟩,by simp⟩)
 ·exact .inr (.inr ⟨.inl (by omega),by simp⟩)
theorem qn(S:List bN)(i:Nat):rZ S i i=false:=by unfold rZ;simp[mM]
theorem tQ{S:List bN}{j:Nat}(h1:rZ S i j=true)(h2:rZ S j k=true):rZ S i k=true:=by
 unfold rZ et at *
 simp only[Bool.or_eq_true,yT,decide_eq_true_eq,jS]at *;simp only[gu]at *;omega
theorem nM(S:List bN)(i k:Nat):oD S i k<0↔rZ S i k=true:=by
 rcases jM S i k with ⟨h,e⟩|⟨h,e⟩|⟨h,e⟩
 ·exact⟨fun _=>h,fun _=>e⟩
 ·subst h;rw[qn,e];simp
 ·refine⟨fun h'=>by omega,fun h'=>?_⟩;have:=tQ h h';rw[qn]at this;cases this
theorem FX{S:List bN}{x y z:Nat}(h1:¬oD S x y<0)(h2:¬oD S y z<0):¬oD S x z<0:=by
 rcases jM S x y with ⟨h,e⟩|⟨h,e⟩|⟨h,e⟩
 ·exact absurd e h1
 ·subst h;exact h2
 ·rcases jM S y z with ⟨g,f⟩|⟨g,f⟩|⟨g,f⟩
  ·exact absurd f h2
  ·subst g;exact h1
  ·intro h';have:=tQ (tQ g h) ((nM S x z).1 h');rw[qn]at this;cases this
theorem lr(S:List bN)(i k:Nat):se S i k<0↔gY (ef S i) (ef S k)=true:=by
 unfold se;rcases mn (ef S i) (ef S k) with ⟨h,e⟩|⟨h,e⟩|⟨h,e⟩
 ·rw[e,h];simp
 ·rw[e,h,eF.irr];simp
 ·rw[e,eF.asym h];simp
theorem Ht{S:List bN}{x y z:Nat}(h1:¬se S x y<0)(h2:¬se S y z<0):¬se S x z<0:=by
 rw[lr]at *;have tri:∀{a b:bN},¬gY a b=true->a=b\/gY b a=true:=fun {a b} h=>by
  rcases mn a b with ⟨g,_⟩|⟨g,_⟩|⟨g,_⟩
  ·exact absurd g h
  ·exact .inl g
  ·exact .inr g
 rcases tri h1 with h|h
 ·rw[h];exact h2
 ·rcases tri h2 with g|g
  ·rw[<-g];exact h1
  ·intro h';have:=eF.tr _ _ _ (eF.tr _ _ _ g h) h';rw[eF.irr]at this;cases this
theorem iq.read{b off n c:Nat}{w wx:World}{l:List bN}(h:iq p w (.slice (some ⟨b,off,none⟩) n c) l)(hx:ab w wx)(hk:k<n) :
  ∃(t s q:Int),Hid (l[k]?=some ⟨t,s,q⟩)/\wx.cell? ⟨b,off+k*3,none⟩=some (B C t)/\wx.cell? ⟨b,off+k*3+1,none⟩=some (B C s)/\wx.cell? ⟨b,off+k*3+2,none⟩=some (B C q):=by
 obtain⟨cs,⟨t,s,q⟩,-,hc,⟨rfl,-⟩,HX⟩:=h.cell_ hk;exact⟨t,s,q,HX,by simpa using hx.cell (hc 0 _ rfl),hx.cell (hc 1 _ rfl),hx.cell (hc 2 _ rfl)⟩
theorem F8(i k b:Nat)(v:Value)(l:List bN)(w:World)(hb:w.cell? ⟨b,0,none⟩=some v)(hl:iq p w v l)(hi:i<l.length)(hk:k<l.length) :
  Calls prog 164 #[B C i,B C k,.pointer (some ⟨b,0,none⟩)] w fun e w'=>e=.returned (B C (oD l i k))/\gN w w':=by
 obtain⟨A,n,c,rfl,hnc,hcc,hnn,HL⟩:=hl.open_;have hin:i<n:=by have:=HL.out;omega
 have hkn:k<n:=by have:=HL.out;omega
 obtain⟨bl,ol,_,_,rfl,-⟩:=hl.at_ hin;obtain⟨t,s,q,HX,x0,x1,x2⟩:=iq.read hl (zE _) hin;obtain⟨t',s',q',HY,y0,y1,y2⟩:=iq.read hl (zE _) hkn;have HR:Bx (oD l i k=(([eR s q s' q',bg (i:Int) (k:Int)]:List Int).find? nz).getD 0):=⟨by
  unfold oD;rw[mI HX.out,mI HY.out];unfold nz;by_cases h:eR s q s' q'=0
  ·by_cases h2:bg (i:Int) (k:Int)=0<;>simp[h,h2]
  ·simp[h]⟩
 clear hl hi hk;go_enter func164,ntmps164
 go_upto_region 1 with (fail)
 refine zR 14 (fun w'=>gN w w') ?_;have kS:(fun w'=>gN w w') w.drew:=(gN.refl _).drew;have kD:ab w w.drew:=(zE _).drew;obtain⟨wd,hwd⟩:=nm (w.drew:World);rw[<-hwd]at kS kD⊢;clear hwd;refine zS 10 [(0,6),(1,7),(2,8),(3,9),(4,10),(5,11),(6,12),(7,13),(9,15),(10,16)] kS ?_;iterate 10 refine zT ?_ (y:=by intro wk hk;(replace hb:=hk.ext.cell hb);(replace x0:=hk.ext.cell x0);(replace x1:=hk.ext.cell x1);(replace x2:=hk.ext.cell x2);(replace y0:=hk.ext.cell y0);(replace y1:=hk.ext.cell y1);(replace y2:=hk.ext.cell y2);go_simp;try with_reducible rfl)
 refine zN (zO 8 (fun K hK=>?_));go_simp;refine (sE t s q t' s' q' _).mono ?_;rintro e w2 ⟨rfl,hx2⟩;have kS2:=kS.trans hx2;refine hK.out _ _ (fun _=>kS2) ?_;clear hK K;try simp only[kA]
 refine zO 11 (fun K hK=>?_);go_simp;refine (fN (i:Int) (k:Int) _).mono ?_;rintro e w3 ⟨rfl,rfl⟩;refine hK.out _ _ (fun _=>kS2) ?_;clear hK K;try simp only[kA]
 refine zO 12 (fun K hK=>?_);go_simp;obtain⟨gb,hgb⟩:=nm w2.heap.size;obtain⟨w3,hw3⟩:=nm ((w2.alloc (.cells #[B C (eR s q s' q'),B C (bg (i:Int) (k:Int))] 3)):World);have HB:Bx (Bk w3 gb #[B C (eR s q s' q'),B C (bg (i:Int) (k:Int))] 3):=⟨by rw[hw3,hgb];exact Bk.new _ _ _⟩
 have kS3:gN w w3:=by rw[hw3];exact kS2.alloc _
 rw[<-hw3,<-hgb];clear hw3 hgb;refine hK.out _ _ (fun _=>kS3) ?_;clear hK K;try simp only[kA]
 refine zO 13 (fun K hK=>?_);go_simp;refine (qd _ _ _ _ 2 (Jj _ _ _ _) (gC _ _) HB.out).mono ?_;rintro e w4 ⟨rfl,rfl⟩;rw[<-HR.out];refine hK.out _ _ (fun _=>kS3) ?_;clear hK K;try simp only[kA]
 refine zO 14 (fun K hK=>?_);go_simp;refine hK.out _ _ (fun h=>absurd rfl h) ?_;clear hK K;refine zD ?_;go_wp2_with fail;go_ret
 exact⟨rfl,kS3⟩
theorem Gf(i k b:Nat)(v:Value)(l:List bN)(w:World)(hb:w.cell? ⟨b,0,none⟩=some v)(hl:iq p w v l)(hi:i<l.length)(hk:k<l.length) :
  Calls prog 139 #[B C i,B C k,.pointer (some ⟨b,0,none⟩)] w fun e w'=>e=.returned (B C (se l i k))/\gN w w':=by
 obtain⟨A,n,c,rfl,hnc,hcc,hnn,HL⟩:=hl.open_;have hin:i<n:=by have:=HL.out;omega
 have hkn:k<n:=by have:=HL.out;omega
 obtain⟨bl,ol,_,_,rfl,-⟩:=hl.at_ hin;obtain⟨t,s,q,HX,x0,x1,x2⟩:=iq.read hl (zE _) hin;obtain⟨t',s',q',HY,y0,y1,y2⟩:=iq.read hl (zE _) hkn;have HR:Bx (se l i k=me ⟨t,s,q⟩ ⟨t',s',q'⟩):=⟨by unfold se;rw[mI HX.out,mI HY.out]⟩
 clear hl hi hk;go_enter func139,ntmps139
 go_upto_region 1 with (fail)
 refine zR 9 (fun w'=>gN w w') ?_;have kS:(fun w'=>gN w w') w.drew:=(gN.refl _).drew;have kD:ab w w.drew:=(zE _).drew;obtain⟨wd,hwd⟩:=nm (w.drew:World);rw[<-hwd]at kS kD⊢;clear hwd;refine zS 8 [(0,6),(1,7),(2,8),(3,9),(4,10),(5,11),(6,12),(7,13)] kS ?_;iterate 8 refine zT ?_ (y:=by intro wk hk;(replace hb:=hk.ext.cell hb);(replace x0:=hk.ext.cell x0);(replace x1:=hk.ext.cell x1);(replace x2:=hk.ext.cell x2);(replace y0:=hk.ext.cell y0);(replace y1:=hk.ext.cell y1);(replace y2:=hk.ext.cell y2);go_simp;try with_reducible rfl)
 refine zN (zO 8 (fun K hK=>?_));go_simp;refine (Dh t s q t' s' q' _).mono ?_;rintro e w2 ⟨rfl,hx2⟩;rw[<-HR.out];have kS2:=kS.trans hx2;refine hK.out _ _ (fun _=>kS2) ?_;clear hK K;try simp only[kA]
 refine zO 9 (fun K hK=>?_);go_simp;refine hK.out _ _ (fun h=>absurd rfl h) ?_;clear hK K;refine zD ?_;go_wp2_with fail;go_ret
 exact⟨rfl,kS2⟩
end Go.Proofs.YtpaidaphacoblaaGreatDoor

namespace Go.Proofs.YtpaidaphacoblaaGreatDoor
open Go.Value renaming int→B
open Go.IntKind renaming i64→C
open Go.RowKit Go.Lib Go.Sort Go.Shelf
theorem J1{ρ:Ren}(L:SlLaysF0.n6 Tryz.prog ρ)(k:Nat)(hk0:0<k)(aE:∀w,(isAgg (ρ.t 24)).run Tryz.prog w=.ok true w)(zE:∀w,(Go.sizeOf (ρ.t 24)).run Tryz.prog w=.ok k w){α:Type}[Inhabited α](enc:α->List Value)(hk:∀x,(enc x).length=k)(h1:∀x,∀v∈enc x,v.oneCell'=true)(cf:α->α->Int)(irr:∀x,¬cf x x<0)(tr:∀x y z,cf x y<0->cf y z<0->cf x z<0)(ntr:∀x y z,¬cf x y<0->¬cf y z<0->¬cf x z<0)(g:Nat)(eg:∀args w,(callFunc g args).run Tryz.prog w=.ok (.enter g args) w)(hc:∀w1 x y,Calls Tryz.prog g #[.agg (enc x).toArray,.agg (enc y).toArray] w1 fun e w2=>e=.returned (B C (cf x y))/\gN w1 w2)(base:Nat)(e:TypeId)(v:Value)(xs:List α)(w:World)(hn:xs.length<=1000000)(hown:w.ownsRow base e k v xs.length (xs.map enc).flatten) :
  Calls Tryz.prog (ρ.f 6) #[v,.func (.func g) #[] #[]] w fun e' w'=>e'=.returned (.tuple #[])/\∃xs':List α,xs'.Perm xs/\(xs'.Pairwise fun a b=>¬cf b a<0)/\w'.ownsRow base e k v xs.length (xs'.map enc).flatten/\w.grownBy w' v.ownBlock:=by
 rcases vE xs.length with h0|h0
 ·obtain rfl:xs=[]:=xZ h0;obtain⟨A,c,rfl⟩:∃A c,v=.slice A 0 c:=by
   rcases hown.2 with ⟨e,_⟩|⟨g',cap,cur,e,_⟩
   ·exact⟨none,0,e⟩
   ·exact⟨_,_,e⟩
  refine (AnyF.slices_SortFunc_none L A c (.func (.func g) #[] #[]) w).mono ?_;rintro e w' ⟨rfl,rfl⟩;exact⟨rfl,[],wN _,xE,hown,uU _ _⟩
 ·obtain⟨G,cap,rfl⟩:∃G cap,v=.slice (some ⟨G,0,none⟩) xs.length cap:=by
   rcases hown.2 with ⟨_,e⟩|⟨g',cap,cur,e,_⟩
   ·omega
   ·exact⟨_,_,e⟩
  obtain⟨hH,hb,hback⟩:=F3 enc hk0 hk rfl hown;have hO:SWO (ltOf cf):=⟨fun x=>by have:=irr x;simp[ltOf,this],fun x y z h1 h2=>by
   simp only[ltOf,decide_eq_true_eq]at *;exact tr _ _ _ h1 h2,fun x y z h1 h2=>by
   simp only[ltOf,decide_eq_false_iff_not]at *;exact ntr _ _ _ h1 h2⟩
  have hd:xs.toArray.size=xs.length:=by simp
  have hcmp:CmpLays Tryz.prog g #[] enc k cf G 0 xs.toArray.size w:=by intro m os dk hs x y;exact hc _ x y
  have hs:=AnyQ.slices_SortFunc L k aE zE enc hk h1 cf hO g #[] G 0 cap xs.toArray w eg hcmp hH hb (by omega);rw[hd]at hs;refine hs.mono ?_;rintro e w' ⟨rfl,d',n,os,hp,hsrt,rfl⟩;rw[<-hd]at hp hsrt;have hsz:d'.size=xs.toArray.size:=hp.1;have hpl:=D8 hp;rw[<-hsz]at hsrt;have hpw:=JU hsrt;obtain⟨h1,h2⟩:=hback d' (by omega) n os;exact⟨rfl,d'.toList,hpl,hpw.imp fun {a b} h=>by simpa[ltOf] using h,h1,h2⟩
theorem Dr{a b c d e f:Int}(h1:eR a b c d<0)(h2:eR c d e f<0):eR a b e f<0:=by rcases cT a b c d with ⟨g,r⟩|⟨g,r⟩|⟨g,r⟩<;>rcases cT c d e f with ⟨g',r'⟩|⟨g',r'⟩|⟨g',r'⟩<;>rcases cT a b e f with ⟨g2,r2⟩|⟨g2,r2⟩|⟨g2,r2⟩<;>omega
theorem Ar{a b c d e f:Int}(h1:¬eR a b c d<0)(h2:¬eR c d e f<0):¬eR a b e f<0:=by rcases cT a b c d with ⟨g,r⟩|⟨g,r⟩|⟨g,r⟩<;>rcases cT c d e f with ⟨g',r'⟩|⟨g',r'⟩|⟨g',r'⟩<;>rcases cT a b e f with ⟨g2,r2⟩|⟨g2,r2⟩|⟨g2,r2⟩<;>omega
theorem At(a b:Int):¬eR a b a b<0:=by rcases cT a b a b with ⟨g,r⟩|⟨g,r⟩|⟨g,r⟩<;>omega
end Go.Proofs.YtpaidaphacoblaaGreatDoor

