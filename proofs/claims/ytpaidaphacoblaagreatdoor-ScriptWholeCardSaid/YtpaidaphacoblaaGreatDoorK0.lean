import Derived.WalkKit
import Derived.WalkSpells
import Derived.WalkLawsBesides
import Derived.Deep.RegionHeld3
import Derived.Deep.QuietTactic
import Derived.BigQuiet
import Derived.Deep.DeepCutAuto
import Derived.Lib.Hide
import Derived.Laws.AppendOwnNone
import Derived.Test.YtpaidaphacoblaaGreatDoorRows
import Derived.Deep.AppendLies
set_option linter.all false
set_option maxRecDepth 100000
set_option maxHeartbeats 0
namespace Go.Proofs.YtpaidaphacoblaaGreatDoor
open Go.Value renaming int→B,slice→D
open Go.IntKind renaming i64→C
open Go.RowKit
variable {a:Addr} {v:Value} {b base c e g k n off p:Nat} {x:Int} {A:Option Addr} {w w' w1:World} {xs:List Value} {P:Program} {cs:Array Value} {t:TypeId}
set_option linter.defProp false
def zZ:=@Lib.hid
def zY:=@List.getElem?_eq_some_iff
def zX:=@Nat.le_refl
def zW:=@List.mem_of_getElem?
def zV:=@List.getElem?_eq_getElem
def zU:=@Nat.lt_or_ge
def zP:=@List.getElem?_map
def zM:=@List.mem_append
def zJ:=@List.length_map
def zH:=@List.getElem?_of_mem
def zG:=@Int.eq_ofNat_of_zero_le
def zF:=@List.mem_map
def zC:=@List.getElem?_eq_none
def zB:=@Nat.lt_of_lt_of_le
def yZ:=@World.ownsRow_nil
def yY:=@List.getElem?_append_left
def yX:=@List.mem_range
def yW:=@List.length_take
def yV:=@Nat.zero_add
def yU:=@List.length_append
def yT:=@Bool.and_eq_true
def yS:=@Bool.eq_false_or_eq_true
def yR:=@Nat.le_trans
def yQ:=@Nat.add_zero
def yP:=@Below.heap_setCell
def yO:=@Option.map_eq_some_iff
def yN:=@IntWalk.i64_in
def yM:=@List.mem_cons
def yL:=@List.getElem?_append_right
def yK:=@Bool.true_and
def yJ:=@And.intro
def yI:=@World.cell?_alloc_past
def yH:=@World.cell?_alloc_new
def yG:=@List.map_append
def yF:=@List.length_set
def yE:=@Bool.eq_iff_iff
def yD:=@List.getElem?_set
def yC:=@Int.toNat_natCast
def yB:=@List.getElem?_take
def xZ:=@List.eq_nil_of_length_eq_zero
def xY:=@List.append_assoc
def xX:=@List.pairwise_iff_getElem
def xW:=@List.ext_getElem?
def xV:=@List.take_of_length_le
def xU:=@List.getD_eq_getElem?_getD
def xT:=@Int.natCast_nonneg
def xS:=@List.all_eq_true
def xR:=@List.mem_filter
def xQ:=@List.length_cons
def xP:=@List.range_succ
def xO:=@Nat.lt_trichotomy
def xN:=@List.append_nil
def xM:=@List.filter_append
def xL:=@Nat.zero_le
def xK:=@List.pairwise_cons
def xJ:=@List.pairwise_append
def xI:=@Nat.mod_lt
def xH:=@List.mem_append_left
def xG:=@Array.getElem?_eq_getElem
def xF:=@Option.some.inj
def xE:=@List.Pairwise.nil
def xD:=@Below.trans
def xC:=@List.getElem_mem
def xB:=@Nat.add_mul
def wZ:=@List.any_eq_true
def wY:=@Array.getElem?_eq_none
def wX:=@List.map_set
def wW:=@List.getElem?_set_ne
def wU:=@List.getElem?_set_self
def wT:=@List.all_eq_false
def wR:=@List.pairwise_singleton
def wQ:=@List.length_range
def wO:=@List.any_eq_false
def wN:=@List.Perm.refl
def wM:=@Nat.mul_comm
def wL:=@List.not_mem_nil
def wK:=@List.map_cons
def wJ:=@List.getElem?_range
def wH:=@Nat.mul_one
def wG:=@World.cell?_of_block
def wD:=@List.length_drop
def wC:=@Nat.add_assoc
def wB:=@Nat.mul_le_mul_left
def wA:=@List.flatten_cons
def vZ:=@List.drop_eq_getElem_cons
def vY:=@List.map_map
def vW:=@World.size_alloc
def vV:=@Array.getElem?_setIfInBounds
def vU:=@Bool.or_eq_false_iff
def vT:=@Array.toList_push
def vR:=@List.getElem?_drop
def vQ:=@Nat.zero_mul
def vO:=@List.set_append_right
def vN:=@List.mem_cons_of_mem
def vM:=@List.mem_cons_self
def vK:=@List.map_congr_left
def vJ:=@List.filter_cons
def vH:=@Nat.sub_self
def vE:=@Nat.eq_zero_or_pos
def vD:=@List.replicate_succ
def M5:=@List.set_cons_zero
def uZ:=@List.drop_zero
def uY:=@Bool.not_eq_true'
def uX:=@List.eq_of_mem_replicate
def uW:=@List.mem_or_eq_of_mem_set
def uV:=@List.length_filterMap_le
def uU:=@World.grownBy.refl
def uT:=@World.ownsRow_lit
def uR:=@List.foldl_append
def uQ:=@List.nodup_cons
def uP:=@List.length_filter_le
def uO:=@List.nodup_append
def uN:=@Array.size_setIfInBounds
def uM:=@List.set_getElem_self
def uL:=@Option.bind_some
def uK:=@List.pairwise_map
def uJ:=@List.mem_singleton
def uI:=@List.mem_of_mem_take
def uH:=@Nat.mul_le_mul_right
def uF:=@List.drop_of_length_le
def uE:=@Region.noSelect_spec
def uD:=@List.length_replicate
def uC:=@List.filter_cons_of_pos
def uB:=@List.filter_cons_of_neg
def tZ:=@List.take_succ_eq_append_getElem
def tY:=@Array.toList_setIfInBounds
theorem nm{α:Type}(a:α):∃z,z=a:=⟨_,rfl⟩
def ab(w w':World):Prop:=Below w.heap.size w w'
section
variable {w w1 w2:World}
theorem ab.refl(w:World):ab w w:=Below.refl _ _
theorem ab.trans(h:ab w w1)(k:ab w1 w2):ab w w2:=xD h (Below.mono k h.size)
theorem ab.alloc(h:ab w w1)(o:Obj):ab w (w1.alloc o):=Below.alloc h h.size o
theorem ab.drew(h:ab w w1):ab w w1.drew:=Below.drew h
theorem ab.drewN(h:ab w w1)(n:Nat):ab w (w1.drewN n):=⟨h.os,h.tape,h.output,h.size,h.block⟩
theorem ab.setCell(h:ab w w1){p:Addr}(hp:w.heap.size<=p.block)(u:Value):ab w (w1.setCell p u):=Below.setCell h hp u
theorem ab.grown(h:ab w w1){row:Option Nat}(hg:w1.grownBy w2 row)(hr:∀k,row=some k->w.heap.size<=k):ab w w2:=Below.grown h hg h.size hr
theorem ab.size(h:ab w w1):w.heap.size<=w1.heap.size:=Below.size h
theorem ab.below(h:ab w w1):Below w.heap.size w w1:=h
theorem bK(h:w.cell? a=some v):a.block<w.heap.size:=by
 unfold World.cell? at h;rcases zU a.block w.heap.size with hlt|hge
 ·exact hlt
 ·rw[wY hge]at h;cases h
theorem ab.cell(h:ab w w1){a:Addr}{v:Value}(hc:w.cell? a=some v):w1.cell? a=some v :=
 (Below.cell h (bK hc)).trans hc
end
def aU(x:Int):Prop:=-9223372036854775808<=x/\x<=9223372036854775807
def XT(p:Nat)(w w':World):Prop:=w.grownBy w' (some p)
section
variable {p:Nat} {w w1 w2:World}
theorem ab.xt(h:ab w w1):XT p w w1:=⟨h.os,h.tape,h.output,h.size,fun k hk _=>h.block k hk⟩
theorem XT.refl(p:Nat)(w:World):XT p w w:=uU _ _
theorem XT.trans(h:XT p w w1)(k:XT p w1 w2):XT p w w2 :=
 ⟨k.os.trans h.os,k.tape.trans h.tape,k.output.trans h.output,yR h.size k.size,
  fun i hi hne=>(k.block i (zB hi h.size) hne).trans (h.block i hi hne)⟩
theorem XT.size(h:XT p w w1):w.heap.size<=w1.heap.size:=World.grownBy.size h
theorem XT.ext(h:XT p w w1)(k:ab w1 w2):XT p w w2:=h.trans k.xt
theorem XT.alloc(h:XT p w w1)(o:Obj):XT p w (w1.alloc o):=h.ext ((ab.refl _).alloc o)
theorem XT.drewN(h:XT p w w1)(n:Nat):XT p w (w1.drewN n):=h.ext ((ab.refl _).drewN n)
theorem XT.drew(h:XT p w w1):XT p w w1.drew:=h.ext ((ab.refl _).drew)
theorem XT.setCell(h:XT p w w1){a:Addr}(ha:a.block=p)(u:Value):XT p w (w1.setCell a u) :=
 h.trans ⟨rfl,rfl,rfl,by simp[World.setCell],fun i _ hne=>yP _ _ _ _ (fun e=>hne (by rw[e,ha]))⟩
theorem XT.setNew(h:XT p w w1)(ha:w.heap.size<=a.block)(u:Value):XT p w (w1.setCell a u) :=
 ⟨h.os,h.tape,h.output,by simpa[World.setCell] using h.size,fun i hi hne=>(yP _ _ _ _ (by omega)).trans (h.block i hi hne)⟩
theorem XT.grown(h:XT p w w1){row:Option Nat}(hg:w1.grownBy w2 row)(hr:∀k,row=some k->w.heap.size<=k):XT p w w2 :=
 ⟨hg.os.trans h.os,hg.tape.trans h.tape,hg.output.trans h.output,yR h.size hg.size,
  fun i hi hne=>(hg.block i (zB hi h.size) (fun e=>by have:=hr i e.symm;omega)).trans (h.block i hi hne)⟩
theorem XT.cell(h:XT p w w1)(hc:w.cell? a=some v)(ha:a.block≠p):w1.cell? a=some v :=
 (wG (w:=w) (h.block _ (bK hc) (fun e=>ha (by injection e)))).trans hc
theorem al{o:Obj}(hb:w.heap[g]?=some o):g<w.heap.size:=by
 rcases zU g w.heap.size with hlt|hge
 ·exact hlt
 ·rw[wY hge]at hb;cases hb
theorem XT.blk(h:XT p w w1){o:Obj}(hb:w.heap[g]?=some o)(hg:g≠p):w1.heap[g]?=some o :=
 (h.block g (al hb) (fun e=>hg (by injection e))).trans hb
theorem ab.blk(h:ab w w1){o:Obj}(hb:w.heap[g]?=some o):w1.heap[g]?=some o:=(h.block g (al hb)).trans hb
theorem XT.fresh(h:XT p w1 w2)(k:ab w w1)(hp:w.heap.size<=p):ab w w2 :=
 ⟨h.os.trans k.os,h.tape.trans k.tape,h.output.trans k.output,yR k.size h.size,
  fun i hi=>(h.block i (zB hi k.size) (fun e=>by injection e;omega)).trans (k.block i hi)⟩
end
def ak(p:Nat)(w:World)(v:Value)(l:List Int):Prop :=
 ∃(A:Option Addr) (c:Nat),v=D A l.length c/\l.length<=c/\c<=9223372036854775807/\l.length<=9223372036854775807/\(∀x∈l,aU x) /\
  ∀k x,l[k]?=some x->∃b off,A=some ⟨b,off,none⟩/\b≠p/\w.cell? ⟨b,off+k,none⟩=some (B C x)
section
variable {p:Nat} {w w':World} {v:Value} {l:List Int}
theorem ak.xt(h:ak p w v l)(e:XT p w w'):ak p w' v l:=by obtain⟨A,c,hv,h1,h2,h3,h5,h4⟩:=h;exact⟨A,c,hv,h1,h2,h3,h5,fun k x hx=>by obtain⟨b,off,ha,hb,hc⟩:=h4 k x hx;exact⟨b,off,ha,hb,e.cell hc hb⟩⟩
theorem ak.ext(h:ak p w v l)(e:ab w w'):ak p w' v l:=h.xt e.xt
theorem ak.mem(h:ak p w v l)(hx:x∈l):aU x:=by obtain⟨_,_,_,_,_,_,h5,_⟩:=h;exact h5 x hx
theorem ak.open_(h:ak p w v l):∃(A:Option Addr) (n c:Nat),v=D A n c/\n<=c/\c<=9223372036854775807/\n<=9223372036854775807/\Hid (l.length=n):=by obtain⟨A,c,hv,h1,h2,h3,h5,h4⟩:=h;exact⟨A,l.length,c,hv,h1,h2,h3,rfl⟩
theorem ak.len(h:ak p w (D A n c) l):l.length=n:=by obtain⟨A',c',hv,_⟩:=h;injection hv with _ hn _;exact hn.symm
theorem ak.at_(h:ak p w (D A n c) l)(hk:k<n) :
  ∃(b off:Nat) (x:Int),A=some ⟨b,off,none⟩/\w.cell? ⟨b,off+k,none⟩=some (B C x)/\Hid (l[k]?=some x)∧-9223372036854775808<=x/\x<=9223372036854775807:=by
 have hl:=h.len;obtain⟨A',c',hv,h1,h2,h3,h5,h4⟩:=h;injection hv with ha _ _;subst ha;have hk':k<l.length:=by omega
 obtain⟨b,off,ha,_,hc⟩:=h4 k _ (zV hk');have:=h5 _ (xC hk');exact⟨b,off,l[k],ha,hc,zV hk',this.1,this.2⟩
theorem ak.lt_{ad:Addr}(h:ak p w (D A n c) l)(ha:A=some ad)(hn:0<n):ad.block<w.heap.size:=by obtain⟨b,off,x,ha',hc,_⟩:=h.at_ hn;rw[ha]at ha';injection ha' with ha';subst ha';exact bK hc
theorem ak.cell_(h:ak p w (D (some ⟨b,off,none⟩) n c) l)(hk:k<n) :
  ∃(x:Int),w.cell? ⟨b,off+k,none⟩=some (B C x)/\Hid (l[k]?=some x)∧-9223372036854775808<=x/\x<=9223372036854775807:=by
 obtain⟨b',off',x,ha,hc,hx⟩:=h.at_ hk;injection ha with ha;injection ha with hb ho;subst hb;subst ho;exact⟨x,hc,hx⟩
theorem ak.nil(p:Nat)(w:World):ak p w (D none 0 0) [] :=
 ⟨none,0,rfl,zX _,by omega,by simp,fun x hx=>absurd hx (by simp),fun k x hx=>by simp at hx⟩
theorem ak.take{A:Option Addr}{n c k:Nat}(h:ak p w (D A n c) l)(hk:k<=n):ak p w (D A k c) (l.take k):=by
 have hl:=h.len;obtain⟨A',c',hv,h1,h2,h3,h5,h4⟩:=h;injection hv with ha hn hc;subst ha;subst hc;have hlk:(l.take k).length=k:=by rw[yW];omega
 refine⟨A,c,by rw[hlk],by omega,h2,by omega,fun x hx=>h5 x (uI hx),fun i x hx=>?_⟩;refine h4 i x ?_;rw[yB]at hx;split at hx
 ·exact hx
 ·cases hx
theorem ak.drop{A:Option Addr}{n c k:Nat}(h:ak p w (D A n c) l)(hk:k<=n):ak p w (D (if c=k then A else A.map (·.add k)) (n-k) (c-k)) (l.drop k):=by
 have hl:=h.len;obtain⟨A',c',hv,h1,h2,h3,h5,h4⟩:=h;injection hv with ha hn hc;subst ha;subst hc;have hlk:(l.drop k).length=n-k:=by rw[wD];omega
 refine⟨_,c-k,by rw[hlk],by omega,by omega,by omega,fun x hx=>h5 x (List.mem_of_mem_drop hx),fun i x hx=>?_⟩;rw[vR]at hx;obtain⟨b,off,ha,hb,hcell⟩:=h4 _ x hx;have:=(zY.1 hx).1;rw[if_neg (by omega),ha];by_cases h0:k=0
 ·subst h0;exact⟨b,off,by simp[Addr.add],hb,by simpa using hcell⟩
 ·exact⟨b,off+k,by simp[Addr.add,h0],hb,by rw[wC];exact hcell⟩
theorem ak.lit(l:List Int)(t:TypeId)(hp:p<w.heap.size)(hb:∀x∈l,aU x)(hl:l.length<=9223372036854775807):ak p (w.alloc (.cells (l.map (Value.int .i64)).toArray t)) (D (some ⟨w.heap.size,0,none⟩) l.length l.length) l :=
 ⟨_,_,rfl,zX _,by omega,hl,hb,fun k x hx=>⟨w.heap.size,0,rfl,by omega,by rw[yV,cell_of_row _ _ k _ t (0,0) (heap_alloc_new w _)];simp[hx]⟩⟩
theorem ak.litg(l:List Int)(t:TypeId)(g:Nat)(hg:g=w.heap.size)(hp:p<g)(hb:∀x∈l,aU x)(hl:l.length<=9223372036854775807):ak p (w.alloc (.cells (l.map (Value.int .i64)).toArray t)) (D (some ⟨g,0,none⟩) l.length l.length) l:=by subst hg;exact ak.lit l t hp hb hl
theorem ak.of_own(h:w.ownsRow base e 1 v n (l.map (Value.int .i64)))(hp:p<base)(hb:∀x∈l,aU x)(hl:l.length<=9223372036854775807):ak p w v l:=by
 have hn:l.length=n:=by simpa using h.1
 rcases h.2 with ⟨rfl,rfl⟩|⟨g,cap,cur,rfl,hg,hh,hnc,hcm,hcs,htk⟩
 ·obtain rfl:l=[]:=xZ hn;exact ak.nil p w
 ·subst hn;refine⟨_,cap,rfl,hnc,hcm,hl,hb,fun k x hx=>⟨g,0,rfl,by omega,?_⟩⟩;have hk:=(zY.1 hx).1;rw[yV,h.cellAt k (by omega)];simp[hx]
end
theorem dD{size:Nat}(h:w.ownsRow base e size v n xs)(hx:XT p w w1)(hp:p<base):w1.ownsRow base e size v n xs:=by
 refine h.kept hx ?_;rcases h.2 with ⟨rfl,_⟩|⟨g,cap,cur,rfl,hg,_⟩
 ·exact .inl rfl
 ·refine .inr fun e=>?_;have:g=p:=by simpa[Value.ownBlock] using e
  omega
theorem ao{size:Nat}(h:w.ownsRow base e size v n xs)(hx:ab w w1):w1.ownsRow base e size v n xs:=by
 rcases h with ⟨h1,h2|⟨g,cap,cur,hv,hg,hh,r⟩⟩
 ·exact⟨h1,.inl h2⟩
 ·exact⟨h1,.inr ⟨g,cap,cur,hv,hg,hx.blk hh,r⟩⟩
theorem aF(w:World){ops:Array Oper}{rest:List Oper}{o:Oper}{a:Act}{Q:Exit->Act->World->Prop}(hgd:o.guard=none)(s x:Operand)(t:TypeId)(ho:o.op=.call { callee:=.builtin .append,args:=#[s,x],argTypes:=#[t,t] })(base:Nat)(e:TypeId)(i:TypeInfo)(z:Value)(bytes:Nat)(ht:P.underlying t=some (.slice e))(hi:P.info? e=some i)(hz:i.zero=some z)(hsize:i.size=1)(hby:i.bytes=bytes)(hzs:z.cells.size=1)(v:Value)(n:Nat)(xs:List Value)(hs:a.eval s=v)(hown:w.ownsRow base e 1 v n xs)(g:Nat)(u:Value)(hx:a.eval x=D (some ⟨g,0,none⟩) 1 1)(hu:w.cell? ⟨g,0,none⟩=some u)(h1:u.oneCell'=true)(hn:n<=1000000)(hb:bytes<=1000)(hbase:base<=w.heap.size)(h:∀v' w',w'.ownsRow base e 1 v' (n+1) (xs++[u])->w.grownBy w' v.ownBlock->wpList P ops Q rest (a.put o.dst v') w'):wpList P ops Q (o::rest) a w:=by
 refine wpList_append_own w hgd s x t ho base e i z 1 bytes ht hi hz hsize hby hzs (by decide) v n xs hs hown ⟨g,0,none⟩ 1 1 [u] hx rfl ?_ ?_ (by unfold maxLen;omega) ?_ hbase (fun v' w' h2 h3 _=>h v' w' h2 h3)
 ·intro j y hj;match j,hj with
  |0,hj=>simp at hj;subst hj;simpa[Addr.add] using hu
 ·intro y hy;simp at hy;subst hy;exact h1
 ·have:(n+1)*bytes<=(n+1)*1000:=wB _ hb;omega
theorem fa(b off j:Nat):(⟨b,off,none⟩:Addr).add j=⟨b,off+j,none⟩:=by
 unfold Addr.add;split
 ·rename_i h;subst h;rfl
 ·rfl
theorem n8(w:World)(base:Nat)(t ty e:TypeId)(i:TypeInfo)(size:Nat)(ht:P.underlying t=some (.slice e))(hi:P.info? e=some i)(v:Value)(n:Nat)(xs:List Value)(hown:w.ownsRow base e size v n xs)(c:Nat):(Builtin.append_ #[t,t] ty #[v,D none 0 c]).run P w=.ok v w:=by
 rcases hown.2 with ⟨rfl,rfl⟩|⟨g,cap,cur,rfl,_,_,hnc,_⟩
 ·simp[Builtin.append_,run_underlying ht,sizeOf,typeInfo,hi,Builtin.lenOf,Builtin.firstCells]
 ·simp[Builtin.append_,run_underlying ht,sizeOf,typeInfo,hi,Builtin.lenOf,Builtin.firstCells,hnc,storeCells]
theorem dh(w:World){ops:Array Oper}{rest:List Oper}{o:Oper}{a:Act}{Q:Exit->Act->World->Prop}(hgd:o.guard=none)(s x:Operand)(t:TypeId)(ho:o.op=.call { callee:=.builtin .append,args:=#[s,x],argTypes:=#[t,t] })(base:Nat)(e:TypeId)(i:TypeInfo)(z:Value)(bytes:Nat)(ht:P.underlying t=some (.slice e))(hi:P.info? e=some i)(hz:i.zero=some z)(hsize:i.size=1)(hby:i.bytes=bytes)(hzs:z.cells.size=1)(v:Value)(n:Nat)(xs:List Value)(hs:a.eval s=v)(hown:w.ownsRow base e 1 v n xs)(p:Nat)(A:Option Addr)(m c:Nat)(l2:List Int)(hx:a.eval x=D A m c)(hr:ak p w (D A m c) l2)(hn:n+m<=1000000)(hb:bytes<=1000)(hbase:base<=w.heap.size)(h:∀v' w',w'.ownsRow base e 1 v' (n+m) (xs++l2.map (Value.int .i64))->w.grownBy w' v.ownBlock->wpList P ops Q rest (a.put o.dst v') w'):wpList P ops Q (o::rest) a w:=by
 have hl:=hr.len;rcases vE m with h0|h0
 ·subst h0;obtain rfl:l2=[]:=xZ hl;rcases A with _|ad
  ·refine wpList_plain hgd fun K hK=>?_;have hrun:=n8 (P:=P) w base t o.type e i 1 ht hi v n xs hown c;unfold Oper.wp;simp[execOp,ho,resolve,invoke,builtin,hs,hx,hrun,Result.andThen];exact hK _ _ (h v w (by simpa using hown) (uU _ _))
  ·refine wpList_append_own w hgd s x t ho base e i z 1 bytes ht hi hz hsize hby hzs (by decide) v n xs hs hown ad 0 c [] hx rfl (by simp) (by simp) (by unfold maxLen;omega) ?_ hbase (fun v' w' h2 h3 _=>h v' w' h2 h3);have:(n+0)*bytes<=(n+0)*1000:=wB _ hb;omega
 ·obtain⟨A',c',hv,k1,k2,k3,k5,k4⟩:=hr;injection hv with ha _ _;subst ha;obtain⟨b,off,hA,_,_⟩:=k4 0 l2[0] (zV (by omega));subst hA;refine wpList_append_own w hgd s x t ho base e i z 1 bytes ht hi hz hsize hby hzs (by decide) v n xs hs hown ⟨b,off,none⟩ m c (l2.map (Value.int .i64)) hx (by simp[hl]) ?_ (ints_oneCell _ _) (by unfold maxLen;omega) ?_ hbase (fun v' w' h2 h3 _=>h v' w' h2 h3)
  ·intro j u hj;simp only[zP,yO]at hj;obtain⟨y,hy,rfl⟩:=hj;obtain⟨b',off',hA,_,hc⟩:=k4 j y hy;injection hA with hA;injection hA with h1 h2;subst h1;subst h2;rw[fa];exact hc
  ·have:(n+m)*bytes<=(n+m)*1000:=wB _ hb;omega
theorem aq{size:Nat}(h:w.ownsRow base e size v n xs):∀k,v.ownBlock=some k->base<=k:=fun k hk=>(h.lt k hk).1
theorem ax{α:Type}{l:List α}{x:α}(h:l[k]?=some x):l.take (k+1)=l.take k++[x]:=by obtain⟨hk,rfl⟩:=zY.1 h;rw[tZ hk]
theorem bh{α:Type}{l:List α}(h:l.length=n):l.take n=l:=xV (by omega)
theorem aa{a b:Bool}(h:a=b):Ending.returned (.bool a)=.returned (.bool b):=by rw[h]
theorem Qy{k k':IntKind}{a b a' b':Int}{c c':Bool}(h1:a=a')(h2:b=b')(h3:c=c'):Ending.returned (.tuple #[.int k a,.int k' b,.bool c])=.returned (.tuple #[.int k a',.int k' b',.bool c']):=by rw[h1,h2,h3]
theorem NC{k k':IntKind}{a a' b b':Int}(h1:a=a')(h3:b=b'):Ending.returned (.tuple #[.int k a,.int k' b])=.returned (.tuple #[.int k a',.int k' b']):=by rw[h1,h3]
theorem ag{k:IntKind}{a b:Int}(h:a=b):Ending.returned (.int k a)=.returned (.int k b):=by rw[h]
theorem zE(w:World):ab w w:=ab.refl w
open _root_.Go.Proofs.Tryz
def eW(x n:Int):Int:=if n<1 then 0 else x%n
theorem vn(x n:Int):0<=eW x n:=by
 unfold eW;split
 ·omega
 ·exact Int.emod_nonneg _ (by omega)
theorem vy(x n:Int)(h:1<=n):eW x n<n:=by unfold eW;rw[if_neg (by omega)];exact Int.emod_lt_of_pos _ (by omega)
theorem Hk(x n:Int):eW x n<max n 1:=by
 by_cases h:1<=n
 ·have:=vy x n h;omega
 ·unfold eW;rw[if_pos (by omega)];omega
theorem qb(x n:Int)(w:World)(hx:-9223372036854775808<=x)(hx':x<=9223372036854775807)(hn':n<=9223372036854775807) :
  Calls prog 14 #[B C x,B C n] w fun e w'=>e=.returned (B C (eW x n))/\w=w':=by
 by_cases hn:n<1
 ·go_enter func14,ntmps14
  go_wp2
  go_ret
  exact⟨ag (by simp[eW,hn]),rfl⟩
 have hn1:1<=n:=by omega
 clear hn;have hb1:-n<x.tmod n:=Int.lt_tmod_of_pos x (show (0:Int)<n by omega);have hb2:x.tmod n<n:=Int.tmod_lt_of_pos x (by omega);by_cases h:x.tmod n<0
 ·have HF:Hid (x.tmod n+n=eW x n):=by
   show x.tmod n+n=eW x n
   unfold eW;rw[if_neg (by omega)];have e:=@Int.tmod_eq_emod x n;have:=Int.emod_nonneg x (show n≠0 by omega);split at e<;>omega
  go_enter func14,ntmps14
  go_wp2
  go_ret
  exact⟨ag HF.out,rfl⟩
 ·have HF:Hid (x.tmod n=eW x n):=by
   show x.tmod n=eW x n
   unfold eW;rw[if_neg (by omega)];have e:=@Int.tmod_eq_emod x n;have:=Int.emod_lt_of_pos x (show (0:Int)<n by omega);split at e<;>omega
  go_enter func14,ntmps14
  go_wp2
  go_ret
  exact⟨ag HF.out,rfl⟩
def bz(w:World)(p:Nat):Prop :=
 ∃(A:Option Addr) (n c at_:Nat) (l:List Int),w.heap[p]?=some (.cells #[D A n c,B C (at_:Int)] 82 (0,0))/\at_<=n/\n<=600/\ak p w (D A n c) l/\(∀ad,A=some ad->0<n->ad.block<p)
theorem bz.lt(h:bz w p):p<w.heap.size:=by
 obtain⟨A,n,c,at_,l,hb,_⟩:=h;rcases zU p w.heap.size with hlt|hge
 ·exact hlt
 ·rw[wY hge]at hb;cases hb
theorem bz.keep(h:bz w p)(e:∀k,k<=p->w'.heap[k]?=w.heap[k]?):bz w' p:=by obtain⟨A,n,c,at_,l,hb,h1,h2,h3,h4⟩:=h;refine⟨A,n,c,at_,l,(e p (zX _)).trans hb,h1,h2,?_,h4⟩;have hl:=h3.len;obtain⟨A',c',hv,k1,k2,k3,k5,k4⟩:=h3;injection hv with ha hn hc;subst ha;subst hc;refine⟨A,c,by rw[hl],k1,k2,k3,k5,fun k x hx=>?_⟩;obtain⟨b,off,ha,hb',hc⟩:=k4 k x hx;have hk:=(zY.1 hx).1;have hbp:b<p:=h4 _ ha (by omega);exact⟨b,off,ha,hb',(wG (w:=w) (e b (by omega))).trans hc⟩
theorem bz.ext(h:bz w p)(e:ab w w'):bz w' p :=
 h.keep fun k hk=>e.block k (Nat.lt_of_le_of_lt hk h.lt)
theorem bz.setNew(h:bz w p)(ha:p<a.block)(u:Value):bz (w.setCell a u) p :=
 h.keep fun k hk=>yP _ _ _ _ (by omega)
theorem bz.grown(h:bz w p){row:Option Nat}(hg:w.grownBy w' row)(hr:∀k,row=some k->p<k):bz w' p :=
 h.keep fun k hk=>hg.block k (Nat.lt_of_le_of_lt hk h.lt) (fun e=>by have:=hr k e.symm;omega)
theorem bz.opens(h:bz w p):∃(A:Option Addr) (n c at_:Nat) (l:List Int),w.heap[p]?=some (.cells #[D A n c,B C (at_:Int)] 82 (0,0))/\at_<=n/\n<=600/\ak p w (D A n c) l/\(∀ad,A=some ad->0<n->ad.block<p):=h
theorem ac{i:Nat}{u:Value}(h:w.heap[g]?=some (.cells cs t (0,0)))(hi:cs[i]?=some u):w.cell? ⟨g,i,none⟩=some u:=by rw[cell_of_row w g i cs t (0,0) h];exact hi
theorem ae(h:w.heap[g]?=some (.cells cs t (0,0)))(i:Nat):w.frozen? ⟨g,i,none⟩=false:=by simp[World.frozen?,h]
theorem bn{i:Nat}(h:w.heap[g]?=some (.cells cs t (0,0)))(u:Value):(w.setCell ⟨g,i,none⟩ u).heap[g]?=some (.cells (cs.setIfInBounds i u) t (0,0)):=by simp[World.setCell,Array.getElem?_modify,h]
instance (x:Int):Decidable (aU x):=inferInstanceAs (Decidable (_/\_))
def iN(p:Nat)(w:World)(Q:Value->World->Prop)(e:Ending)(w':World):Prop:=∃v,e=.returned v/\Q v w'/\bz w' p/\XT p w w'
theorem ib(v:Value)(l:List Int)(w:World)(h:ak w.heap.size w v l) :
  Calls prog 6 #[v] w fun e w'=>e=.returned (.pointer (some ⟨w.heap.size,0,none⟩))/\bz w' w.heap.size/\ab w w':=by
 obtain⟨A,n,c,rfl,hnc,hc,hnn,HL⟩:=h.open_;have H:=zZ h;clear h;by_cases hn:600<n
 ·go_enter func6,ntmps6
  go_wp2
  go_ret
  refine⟨rfl,⟨A,600,c,0,l.take 600,?_,by omega,by omega,?_,fun ad ha _=>H.out.lt_ ha (by omega)⟩,(zE _).alloc _⟩
  ·exact heap_alloc_new w _
  ·exact (ak.take H.out (by omega)).ext ((zE _).alloc _)
 ·go_enter func6,ntmps6
  go_wp2
  go_ret
  exact⟨rfl,⟨A,n,c,0,l,heap_alloc_new w _,by omega,by omega,H.out.ext ((zE _).alloc _),fun ad ha h0=>H.out.lt_ ha h0⟩,(zE _).alloc _⟩
theorem IU(p:Nat)(w:World)(h:bz w p) :
  Calls prog 51 #[.pointer (some ⟨p,0,none⟩)] w (iN p w fun v _=>∃x,v=B C x/\aU x):=by
 obtain⟨A,n,c,t,l,hb,ht,hn,hi,hbp⟩:=h.opens;have HBP:=zZ hbp;clear hbp;have H:=zZ h;have HI:=zZ hi;have HB:=zZ hb;have c0:=ac hb (i:=0) rfl;have c1:=ac hb (i:=1) rfl;have f1:=ae hb 1;clear h hi hb;by_cases hlt:t<n
 ·obtain⟨b,off,x,rfl,hcx,HX,hx1,hx2⟩:=HI.out.at_ hlt;go_enter func51,ntmps51
  go_wp2
  go_quiet (fail)
  go_wp2
  generalize hw2:(w.drewN nq).setCell ⟨p,1,none⟩ (Value.int .i64 (↑t+1))=w2;have HB2:Hid (w2.heap[p]?=some (.cells #[D (some ⟨b,off,none⟩) n c,B C ((t:Int)+1)] 82 (0,0))):=by subst hw2;exact bn (w:=w.drewN nq) (i:=1) HB.out _
  have HX2:Hid (XT p w w2):=by subst hw2;exact ((XT.refl _ _).drewN _).setCell rfl _
  have HI2:=zZ (HI.out.xt HX2.out);obtain⟨x',hcx',HX',hx1',hx2'⟩:=HI2.out.cell_ hlt;have d0:=ac HB2.out (i:=0) rfl;have d1:=ac HB2.out (i:=1) rfl;clear hw2 c0 c1 f1 hcx HX hx1 hx2;have e1:IntKind.i64.wrap ((t:Int)+1-1)=t:=by rw[yN _ (by omega)];omega
  go_quiet (fail)
  go_wp2
  go_ret
  exact⟨_,rfl,⟨x',rfl,hx1',hx2'⟩,bz.ext (w:=w2) ⟨_,n,c,t+1,l,by simpa using HB2.out,by omega,hn,HI2.out,HBP.out⟩ ((zE _).drewN _),HX2.out.drewN _⟩
 ·go_enter func51,ntmps51
  go_wp2
  go_quiet (fail)
  go_wp2
  go_ret
  exact⟨_,rfl,⟨0,rfl,by constructor<;>omega⟩,H.out.ext ((zE _).drewN _),(XT.refl _ _).drewN _⟩
theorem am(p:Nat)(n:Int)(w:World)(h:bz w p)(hn':n<=9223372036854775807) :
  Calls prog 18 #[.pointer (some ⟨p,0,none⟩),B C n] w (iN p w fun v _=>∃r,v=B C r/\0<=r/\r<max n 1):=by
 have H:=zZ h;clear h;go_enter func18,ntmps18
 go_wp2_with (first
  |(go_at_call 51;refine (IU _ _ H.out).mono ?_;rintro e w1 ⟨v1,rfl,⟨x,rfl,hx1,hx2⟩,HT,HX⟩)
  |(go_at_call 14;refine (qb _ _ _ hx1 hx2 hn').mono ?_;rintro e w2 ⟨rfl,rfl⟩))
 go_ret
 exact⟨_,rfl,⟨eW x n,rfl,vn _ _,Hk _ _⟩,HT,HX⟩
theorem az(p:Nat)(lo hi:Int)(w:World)(h:bz w p)(h1:-1000000000<=lo)(h2:lo<=1000000000)(h3:-1000000000<=hi)(h4:hi<=1000000000) :
  Calls prog 21 #[.pointer (some ⟨p,0,none⟩),B C lo,B C hi] w (iN p w fun v _=>∃r,v=B C r/\lo<=r/\r<=max lo hi):=by
 have H:=zZ h;clear h;go_enter func21,ntmps21
 go_wp2_with (go_at_call 18;refine (am _ _ _ H.out (by omega)).mono ?_;rintro e w1 ⟨v1,rfl,⟨r,rfl,hr0,hr1⟩,HT,HX⟩);go_ret
 exact⟨_,rfl,⟨lo+r,rfl,by omega,by omega⟩,HT,HX⟩
theorem fe(p:Nat)(n:Int)(w:World)(h:bz w p)(hn:-1000000000<=n)(hn':n<=1000000000) :
  Calls prog 24 #[.pointer (some ⟨p,0,none⟩),B C n] w (iN p w fun v _=>∃b,v=.bool b):=by
 have H:=zZ h;clear h;go_enter func24,ntmps24
 go_wp2_with (go_at_call 18;refine (am _ _ _ H.out (by omega)).mono ?_;rintro e w1 ⟨v1,rfl,⟨r,rfl,hr0,hr1⟩,HT,HX⟩;clear hr1);go_ret
 exact⟨_,rfl,⟨_,rfl⟩,HT,HX⟩
theorem dt(p:Nat)(v:Value)(l:List Int)(w:World)(h:bz w p)(hi:ak p w v l)(h0:l≠[]) :
  Calls prog 25 #[.pointer (some ⟨p,0,none⟩),v] w (iN p w fun v _=>∃x,v=B C x/\x∈l):=by
 obtain⟨A,n,c,rfl,hnc,hc,hnn,HL⟩:=hi.open_;have hn:0<n:=by have:=HL.out;have:=List.length_pos_iff.2 h0;omega
 have H:=zZ h;have HI:=zZ hi;obtain⟨b,off,x0,rfl,_,_⟩:=hi.at_ hn;clear h hi h0;go_enter func25,ntmps25
 go_wp2_with (go_at_call 18;refine (am _ _ _ H.out (by omega)).mono ?_;rintro e w1 ⟨v1,rfl,⟨r,rfl,hr0,hr1⟩,HT,HX⟩;obtain⟨k,rfl⟩:=zG hr0;have hk:k<n:=(by omega);obtain⟨x,hcx,HX',hx1,hx2⟩:=(HI.out.xt HX).cell_ hk);go_ret
 exact⟨_,rfl,⟨x,rfl,zW HX'.out⟩,HT,HX⟩
theorem AU(p:Nat)(w:World)(h:bz w p) :
  Calls prog 86 #[.pointer (some ⟨p,0,none⟩)] w (iN p w fun v _=>∃x,v=.int .i64 x/\aU x):=by
 have H:=zZ h;clear h;go_enter func86,ntmps86
 go_wp2_with (go_at_call 25;refine (dt p _ [-1,0,1,2,31,32,99,100,200,201,9999,10000,1000000,1000001,1152921504606846976,1152921504606846977,-1152921504606846976,9223372036854775807,-9223372036854775808] _ (H.out.ext ((zE _).alloc _)) (ak.lit _ _ H.out.lt (by decide) (by decide)) (by simp)).mono ?_;rintro e w1 ⟨v1,rfl,⟨x,rfl,hx⟩,HT,HX⟩;have HM:=zZ hx;clear hx);go_ret
 exact⟨_,rfl,⟨x,rfl,(by decide:∀x∈([-1,0,1,2,31,32,99,100,200,201,9999,10000,1000000,1000001,1152921504606846976,1152921504606846977,-1152921504606846976,9223372036854775807,-9223372036854775808]:List Int),aU x) x HM.out⟩,HT,XT.trans ((XT.refl _ _).alloc _) HX⟩
theorem Tryz.infoI:(prog.info? 3).map (fun i=>(i.zero,i.size,i.bytes))=some (some (B C 0),1,8):=by kernel_rfl
theorem di{size:Nat}(h:w.ownsRow base e size v n xs)(hn:0<n) :
  ∃g cap,v=D (some ⟨g,0,none⟩) n cap/\base<=g/\g<w.heap.size:=by
 rcases h.2 with ⟨_,h0⟩|⟨g,cap,cur,rfl,hg,hh,_⟩
 ·omega
 ·exact⟨g,cap,rfl,hg,al hh⟩
theorem cd{base' size:Nat}(h:w.ownsRow base e size v n xs)(hb:base'<=base):w.ownsRow base' e size v n xs:=by
 rcases h with ⟨h1,h2|⟨g,cap,cur,hv,hg,r⟩⟩
 ·exact⟨h1,.inl h2⟩
 ·exact⟨h1,.inr ⟨g,cap,cur,hv,by omega,r⟩⟩
theorem Hd{a b c:Value}(h:w.heap[g]?=some (.cells #[a,b,c] t (0,0))) :
  w.cell? ⟨g,0,none⟩=some a/\w.cell? ⟨g,1,none⟩=some b/\w.cell? ⟨g,2,none⟩=some c:=by
 refine⟨?_,?_,?_⟩<;>(rw[cell_of_row w g _ _ t (0,0) h];rfl)
theorem ug{cap:Nat}{l:List Int}(h:w.ownsRow base e 1 (D (some ⟨g,0,none⟩) n cap) n (l.map (Value.int .i64))) :
  (w.setCell ⟨g,k,none⟩ (B C x)).ownsRow base e 1 (D (some ⟨g,0,none⟩) n cap) n ((l.set k x).map (Value.int .i64)):=by
 rw[wX];exact (h.stored k _).1
def lV{α:Type}(p:Nat)(R:World->List Value->α->Prop):Prop:=∀w w' cs x,R w cs x->XT p w w'->R w' cs x
def bj{α:Type}(p size:Nat)(R:World->List Value->α->Prop)(w:World)(v:Value)(xs:List α):Prop :=
 ∃(A:Option Addr) (c:Nat),v=D A xs.length c/\xs.length<=c/\c<=9223372036854775807 /\
  ∀k x,xs[k]?=some x->∃b off cs,A=some ⟨b,off,none⟩/\b≠p/\cs.length=size/\(∀j u,cs[j]?=some u->w.cell? ⟨b,off+k*size+j,none⟩=some u)/\R w cs x
section
variable {α:Type} {p size:Nat} {R:World->List Value->α->Prop} {w w':World} {v:Value} {xs:List α}
theorem bj.xt(h:bj p size R w v xs)(hR:lV p R)(e:XT p w w'):bj p size R w' v xs:=by obtain⟨A,c,hv,h1,h2,h4⟩:=h;exact⟨A,c,hv,h1,h2,fun k x hx=>by obtain⟨b,off,cs,ha,hb,hl,hc,hr⟩:=h4 k x hx;exact⟨b,off,cs,ha,hb,hl,fun j u hu=>e.cell (hc j u hu) hb,hR _ _ _ _ hr e⟩⟩
theorem bj.ext(h:bj p size R w v xs)(hR:lV p R)(e:ab w w'):bj p size R w' v xs:=h.xt hR e.xt
theorem bj.open_(h:bj p size R w v xs):∃(A:Option Addr) (n c:Nat),v=D A n c/\n<=c/\c<=9223372036854775807/\n<=9223372036854775807/\Hid (xs.length=n):=by obtain⟨A,c,hv,h1,h2,h4⟩:=h;exact⟨A,xs.length,c,hv,h1,h2,by omega,rfl⟩
theorem bj.len(h:bj p size R w (D A n c) xs):xs.length=n:=by obtain⟨A',c',hv,_⟩:=h;injection hv with _ hn _;exact hn.symm
theorem bj.at_(h:bj p size R w (D A n c) xs)(hk:k<n) :
  ∃(b off:Nat) (cs:List Value) (x:α),A=some ⟨b,off,none⟩/\cs.length=size/\(∀j u,cs[j]?=some u->w.cell? ⟨b,off+k*size+j,none⟩=some u)/\R w cs x/\Hid (xs[k]?=some x):=by
 have hl:=h.len;obtain⟨A',c',hv,h1,h2,h4⟩:=h;injection hv with ha _ _;subst ha;have hk':k<xs.length:=by omega
 obtain⟨b,off,cs,ha,_,hcl,hc,hr⟩:=h4 k _ (zV hk');exact⟨b,off,cs,xs[k],ha,hcl,hc,hr,zV hk'⟩
theorem bj.cell_(h:bj p size R w (D (some ⟨b,off,none⟩) n c) xs)(hk:k<n) :
  ∃(cs:List Value) (x:α),cs.length=size/\(∀j u,cs[j]?=some u->w.cell? ⟨b,off+k*size+j,none⟩=some u)/\R w cs x/\Hid (xs[k]?=some x):=by
 obtain⟨b',off',cs,x,ha,r⟩:=h.at_ hk;injection ha with ha;injection ha with hb ho;subst hb;subst ho;exact⟨cs,x,r⟩
theorem bj.nil(p size:Nat)(R:World->List Value->α->Prop)(w:World):bj p size R w (D none 0 0) [] :=
 ⟨none,0,rfl,zX _,by omega,fun k x hx=>by simp at hx⟩
theorem bj.of_own(css:List (List Value))(hcs:∀cs∈css,cs.length=size)(hsz:0<size)(hlen:css.length=xs.length)(h:w.ownsRow base e size v xs.length css.flatten)(hp:p<base)(hR:∀(k:Nat) cs x,css[k]?=some cs->xs[k]?=some x->R w cs x):bj p size R w v xs:=by
 rcases h.2 with ⟨rfl,h0⟩|⟨g,cap,cur,rfl,hg,hh,hnc,hcm,hcz,htk⟩
 ·obtain rfl:xs=[]:=xZ h0;exact bj.nil p size R w
 ·refine⟨_,cap,rfl,hnc,hcm,fun k x hx=>?_⟩;have hk:=(zY.1 hx).1;have hk':k<css.length:=by omega
  refine⟨g,0,css[k],rfl,by omega,hcs _ (xC hk'),fun j u hu=>?_,hR k _ x (zV hk') hx⟩;have hj:=(zY.1 hu).1;rw[hcs _ (xC hk')]at hj;have hlt:k*size+j<xs.length*size:=by have:(k+1)*size<=xs.length*size:=uH _ hk;rw[xB]at this;omega
  rw[yV,h.cellAt _ hlt];have key:∀(l:List (List Value)),(∀cs∈l,cs.length=size)->∀i j (hi:i<l.length),j<size->l.flatten[i*size+j]?=(l[i])[j]?:=by
   intro l;induction l with
   |nil=>intro _ i j hi;simp at hi
   |cons a l ih =>
    intro hl i j hi hj;have ha:a.length=size:=hl a (by simp);rw[wA];cases i with
    |zero=>simp only[vQ,yV];rw[yY (by omega)];rfl
    |succ i =>
     rw[yL (by rw[ha,xB];omega)];have:(i+1)*size+j-a.length=i*size+j:=by rw[ha,xB];omega
     rw[this,ih (fun cs hc=>hl cs (by simp[hc])) i j (by simpa using hi) hj];rfl
  rw[key css hcs k j hk' hj];exact hu
end
def RI(p:Nat):World->List Value->List Int->Prop:=fun w cs l=>∃u,cs=[u]/\ak p w u l
theorem RI.stab(p:Nat):lV p (RI p):=by rintro w w' cs l ⟨u,rfl,h⟩ e;exact⟨u,rfl,h.xt e⟩
abbrev oc (p:Nat):World->Value->List (List Int)->Prop:=bj p 1 (RI p)
theorem bj.page{xs:List (List Int)}(h:oc p w (D (some ⟨b,off,none⟩) n c) xs)(hk:k<n) :
  ∃(u:Value) (l:List Int),w.cell? ⟨b,off+k,none⟩=some u/\ak p w u l/\Hid (xs[k]?=some l):=by
 obtain⟨cs,l,hl,hc,⟨u,rfl,hi⟩,hx⟩:=h.cell_ hk;refine⟨u,l,?_,hi,hx⟩;have:=hc 0 u rfl;simpa using this
theorem AY(us:List Value):(us.map fun u=>[u]).flatten=us:=by induction us<;>simp_all
def rh(H:Nat)(v:Value):Prop:=∀k,v.ownBlock=some k->k<H
def eU(p base eS eI:Nat)(w:World)(v:Value)(ls:List (List Int)):Prop :=
 ∃(us:List Value) (H:Nat),us.length=ls.length/\w.ownsRow base eS 1 v ls.length us/\base<=H/\H<=w.heap.size /\
  (∀j u l,us[j]?=some u->ls[j]?=some l->j+1<ls.length->w.ownsRow base eI 1 u l.length (l.map (Value.int .i64))/\rh H u) /\
  (∀u l,us[ls.length-1]?=some u->ls[ls.length-1]?=some l->w.ownsRow H eI 1 u l.length (l.map (Value.int .i64)))
section
variable {p base eS eI:Nat} {w w':World} {v:Value} {ls:List (List Int)}
theorem FU{size:Nat}(h:w.ownsRow base e size v n xs):rh w.heap.size v:=fun k hk=>(h.lt k hk).2
theorem eU.keep(h:eU p base eS eI w v ls)(hs:w.heap.size<=w'.heap.size)(e:∀k,base<=k->k<w.heap.size->w'.heap[k]?=w.heap[k]?):eU p base eS eI w' v ls:=by
 have tr:∀{b e' n:Nat} {u:Value} {xs:List Value},base<=b->w.ownsRow b e' 1 u n xs->w'.ownsRow b e' 1 u n xs:=by
  intro b e' n u xs hb h;rcases h with ⟨h1,h2|⟨g,cap,cur,hv,hg,hh,r⟩⟩
  ·exact⟨h1,.inl h2⟩
  ·exact⟨h1,.inr ⟨g,cap,cur,hv,hg,(e g (by omega) (al hh)).trans hh,r⟩⟩
 obtain⟨us,H,hus,hown,hbH,hH,hold,hlast⟩:=h;exact⟨us,H,hus,tr (zX _) hown,hbH,by omega,fun j u l hu hl hj=>⟨tr (zX _) (hold j u l hu hl hj).1,(hold j u l hu hl hj).2⟩,fun u l hu hl=>tr hbH (hlast u l hu hl)⟩
theorem eU.ext(h:eU p base eS eI w v ls)(e:ab w w'):eU p base eS eI w' v ls:=h.keep e.size fun k _ hk=>e.block k hk
theorem eU.own(h:eU p base eS eI w v ls):∃us,us.length=ls.length/\w.ownsRow base eS 1 v ls.length us:=by obtain⟨us,H,hus,hown,_⟩:=h;exact⟨us,hus,hown⟩
end
theorem aJ{size:Nat}{row:Option Nat}(h:w.ownsRow base e size v n xs)(hg:w.grownBy w' row)(hne:∀k,v.ownBlock=some k->row≠some k):w'.ownsRow base e size v n xs:=by
 refine h.kept hg ?_;cases hb:v.ownBlock with
 |none=>exact .inl rfl
 |some k=>exact .inr (fun e=>hne k hb e.symm)
theorem cA{b1 b2 e1 e2 s1 s2 n1 n2:Nat}{v1 v2:Value}{x1 x2:List Value}(h1:w.ownsRow b1 e1 s1 v1 n1 x1)(h2:w.ownsRow b2 e2 s2 v2 n2 x2)(hne:e1≠e2):∀k,v1.ownBlock=some k->v2.ownBlock≠some k:=by
 intro k hk hk2;rcases h1.2 with ⟨rfl,_⟩|⟨g1,c1,cu1,rfl,_,hh1,_⟩
 ·simp[Value.ownBlock]at hk
 rcases h2.2 with ⟨rfl,_⟩|⟨g2,c2,cu2,rfl,_,hh2,_⟩
 ·simp[Value.ownBlock]at hk2
 have e1':g1=k:=by simpa[Value.ownBlock] using hk
 have e2':g2=k:=by simpa[Value.ownBlock] using hk2
 subst e1';subst e2';rw[hh1]at hh2;injection hh2 with hh2;injection hh2 with _ he;exact hne he
section
variable {p base eS eI:Nat} {w w':World} {v v':Value} {ls:List (List Int)}
theorem eU.new(h:eU p base eS eI w v ls)(hne:eS≠eI){us:List Value}(hus:w.ownsRow base eS 1 v ls.length us)(hg:w.grownBy w' v.ownBlock)(h':w'.ownsRow base eS 1 v' (ls.length+1) (us++[D none 0 0])) :
  eU p base eS eI w' v' (ls++[[]]):=by
 obtain⟨us0,H,hl0,hown,hbH,hH,hold,hlast⟩:=h;obtain rfl:us0=us:=by
  have a:=hown.2;have b:=hus.2
  rcases a with ⟨rfl,h0⟩|⟨g,cap,cur,rfl,_,hh,_,_,_,ht⟩
  ·have h1:=hown.1;have h2:=hus.1;rw[h0]at h1 h2
   have e1:us0=[]:=xZ (by simpa using h1);have e2:us=[]:=xZ (by simpa using h2);rw[e1,e2]
  ·rcases b with ⟨e,_⟩|⟨g',cap',cur',e,_,hh',_,_,_,ht'⟩
   ·cases e
   ·injection e with e1 e2 e3;injection e1 with e1;injection e1 with e1;subst e1;rw[hh]at hh';injection hh' with hh';injection hh' with hc;subst hc;exact ht.symm.trans ht'
 have keep:∀{b n:Nat} {u:Value} {xs:List Value},w.ownsRow b eI 1 u n xs->w'.ownsRow b eI 1 u n xs:=fun hu =>aJ hu hg (fun k hk=>cA hu hown (Ne.symm hne) k hk)
 have hsz:=hg.size;refine⟨us0++[D none 0 0],w'.heap.size,by simp[hl0],by simpa using h',by omega,zX _,?_,?_⟩
 ·intro j u l hu hl hj;simp at hj;have hj':j<ls.length:=by omega
  rw[yY (by omega)]at hu;rw[yY hj']at hl;by_cases e:j+1<ls.length
  ·obtain⟨a,b⟩:=hold j u l hu hl e;exact⟨keep a,fun k hk=>by have:=b k hk;omega⟩
  ·obtain rfl:j=ls.length-1:=by omega
   have a:=hlast u l hu hl;exact⟨cd (keep a) hbH,fun k hk=>by have:=(a.lt k hk).2;omega⟩
 ·intro u l hu hl;simp at hu hl;rw[yL (by omega)]at hu;simp[hl0]at hu;subst hu;subst hl;exact yZ _ _ _ _
theorem eU.push{cap H:Nat}{us:List Value}{u u':Value}{l:List Int}(h:eU p base eS eI w (D (some ⟨g,0,none⟩) ls.length cap) ls)(hne:eS≠eI)(h0:ls≠[])(hs:ab w w1)(hu:us[ls.length-1]?=some u)(hl:ls[ls.length-1]?=some l)(hus:w.ownsRow base eS 1 (D (some ⟨g,0,none⟩) ls.length cap) ls.length us)(hg:w1.grownBy w' u.ownBlock)(h':w'.ownsRow H eI 1 u' (l.length+1) ((l++[x]).map (Value.int .i64)))(hH:w.ownsRow H eI 1 u l.length (l.map (Value.int .i64)))(hbH:base<=H)(hHw:H<=w.heap.size)(hold:∀j u l,us[j]?=some u->ls[j]?=some l->j+1<ls.length->w.ownsRow base eI 1 u l.length (l.map (Value.int .i64))/\rh H u) :
  eU p base eS eI (w'.setCell ⟨g,ls.length-1,none⟩ u') (D (some ⟨g,0,none⟩) ls.length cap) (ls.set (ls.length-1) (l++[x])):=by
 have hp:0<ls.length:=List.length_pos_iff.2 h0;have hlen:us.length=ls.length:=by simpa using hus.1
 have o1:w1.ownsRow base eS 1 (D (some ⟨g,0,none⟩) ls.length cap) ls.length us:=ao hus hs;have o2:w'.ownsRow base eS 1 (D (some ⟨g,0,none⟩) ls.length cap) ls.length us:=aJ o1 hg fun k hk=>cA o1 (ao hH hs) hne k hk;obtain⟨o3,g3⟩:=o2.stored (ls.length-1) u';have kp:∀{b n:Nat} {z:Value} {xs:List Value},w'.ownsRow b eI 1 z n xs->(w'.setCell ⟨g,ls.length-1,none⟩ u').ownsRow b eI 1 z n xs:=fun hz =>aJ hz g3 (fun k hk e=>cA hz o2 (Ne.symm hne) k hk (by simpa[Value.ownBlock] using e))
 have hsz:w.heap.size<=w'.heap.size:=yR hs.size hg.size;refine⟨us.set (ls.length-1) u',H,by simp[hlen],by simpa using o3,hbH,by have:=g3.size;omega,?_,?_⟩
 ·intro j z m hz hm hj;simp at hj;rw[wW (by omega)]at hz hm;obtain⟨a,b⟩:=hold j z m hz hm hj;refine⟨kp (aJ (ao a hs) hg fun k hk e=>?_),b⟩;have h1:=b k hk;have h2:=(hH.lt k e).1;omega
 ·intro z m hz hm;simp only[yF]at hz hm;rw[wU (by omega)]at hz hm;have e1:=xF hz;have e2:=xF hm;subst e1;subst e2;have:=kp h';simpa using this
theorem eU.parts(h:eU p base eS eI w v ls):∃(us:List Value) (H:Nat),us.length=ls.length/\w.ownsRow base eS 1 v ls.length us/\base<=H/\H<=w.heap.size /\
  (∀j u l,us[j]?=some u->ls[j]?=some l->j+1<ls.length->w.ownsRow base eI 1 u l.length (l.map (Value.int .i64))/\rh H u) /\
  (∀u l,us[ls.length-1]?=some u->ls[ls.length-1]?=some l->w.ownsRow H eI 1 u l.length (l.map (Value.int .i64))):=h
end
end Go.Proofs.YtpaidaphacoblaaGreatDoor

