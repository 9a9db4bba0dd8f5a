/-
  Texts put together (12).
-/
import Derived.Test.YtcfioaeamfappaaGreatDoorZTopFull11
namespace Go.Sl
structure KC (R:Rk)(ls:List (Option Lv))(pr:Bool)(n:Nat)(x:Pt)(b:List UInt8):Prop where
 dY:x.dY
 ok:x.Ok
 top:x.top=0
 len:x.bytes=b.length
 bd:1<=b.length/\b.length<=1024
 fit:x.at_+aN pr ls.length b.length<=bD pr ls.length n
 sum:sM x.kind ⟨x.a,x.b,x.c,x.d⟩ b=true
 has:vg pr R ls x.at_.toNat b
theorem Pc {n:Nat}{b:List UInt8}:dH n b=b.take (min b.length n)++List.replicate (n - min b.length n) 0:=by
 unfold dH
 rcases Nat.le_total b.length n with h | h
 ·rw [Nat.min_eq_left h,List.take_of_length_le h,List.take_of_length_le (Nat.le_refl _)]
 ·rw [Nat.min_eq_right h,show n - b.length=0 by omega,Nat.sub_self]
theorem GN (L:Nat)(b:List UInt8):(List.replicate L (Value.int .u8 0)).take 0++(ak b).take (min b.length L)++(List.replicate L (Value.int .u8 0)).drop (0+min b.length L)=ak (dH L b):=by
 rw [Pc,aE,aL,List.take_zero,List.nil_append,Nat.zero_add,List.drop_replicate]
 congr 1
 simp [ak]
end Go.Sl
namespace Go.Proofs.YtcfioaeamfappaaGreatDoor
open Go.Sl
set_option maxRecDepth 10000
set_option maxHeartbeats 4000000
theorem TV (a:Nat)(u:Bool)(n:Nat)(hn:n<=65536)(x:Pt)(vP vI:Value)(r:Nat)(cl:Bool)(i:Nat)(hi:i<=100000):Ct 133 [ptr a,.int .i64 i] [[(a,xu u n x vP vI r cl)]] fun v Bs=>v = .int .i64 (aT n i)/\Bs=[[(a,xu u n x vP vI r cl)]]:=by
 have hw:IntKind.i64.wrap ((n:Int) - ((i*1024:Nat):Int))=(n:Int) - ((i*1024:Nat):Int):=IntWalk.i64_in _ oZ
 refine st Tryz.func133 fun w0 => ?_
 refine go ?_
 rw [show max (0:Int) (min 1024 ((n:Int) - ((i*1024:Nat):Int)))=((aT n i:Nat):Int) by unfold aT;omega]
 refine gz ?_
 exact fin ⟨rfl,rfl⟩ aa
section
variable (s tk:Nat)(vA:Value)(ra rd txg note:Nat)(LA:List (Int×Value))(CA:Chunk)(hA:Mp ra .i64 LA CA)
theorem kM (k:Int)(hk:¬(1<=k/\k<=112)):Ct 78 [ptr s,.int .i64 k] [[(s,bS tk vA ra rd txg note)]] fun u Bs=>u = .tuple #[.pointer none,.int .i64 1]/\Bs=[[(s,bS tk vA ra rd txg note)]]:=by
 have hh:=jx k
 rw [decide_eq_false hk] at hh
 refine st Tryz.func78 fun w0 => ?_
 refine gc hh ?_
 rintro _ _ ⟨rfl,rfl⟩
 refine gz ?_
 exact fin ⟨rfl,rfl⟩ aa
include hA
theorem nr (k:Int)(hk:1<=k/\k<=112)(hl:jP LA k=none):Ct 78 [ptr s,.int .i64 k] [[(s,bS tk vA ra rd txg note)],CA] fun u Bs=>u = .tuple #[.pointer none,.int .i64 130]/\Bs=[[(s,bS tk vA ra rd txg note)],CA]:=by
 have hh:=jx k
 rw [decide_eq_true hk] at hh
 refine st Tryz.func78 fun w0 => ?_
 refine gc hh ?_
 rintro _ _ ⟨rfl,rfl⟩
 refine gz ?_
 exact fin ⟨rfl,rfl⟩ aa
theorem lF (k:Int)(hk:1<=k/\k<=112)(a:Nat)(hl:jP LA k=some (ptr a)):Ct 78 [ptr s,.int .i64 k] [[(s,bS tk vA ra rd txg note)],CA] fun u Bs=>u = .tuple #[ptr a,.int .i64 0]/\Bs=[[(s,bS tk vA ra rd txg note)],CA]:=by
 have hh:=jx k
 rw [decide_eq_true hk] at hh
 refine st Tryz.func78 fun w0 => ?_
 refine gc hh ?_
 rintro _ _ ⟨rfl,rfl⟩
 refine gz ?_
 exact fin ⟨rfl,rfl⟩ aa
end
section
variable (T:TypeId)(fr:Nat×Nat)(p:Nat)(qs:List Nat)(t pool:Nat)(tp:Tp)(pr:Bool)(n:Nat)(ls:List (Option Lv))(no:Nat)(V:Chunk)(hV:jd t pool tp pr n ls no V)(ok:dE tp pr n ls.length)(R:Rk)(C:Chunk)(hC:br p qs R C)(ho:dI qs R n ls)(hall:∀x∈ls,x≠none)(bW:R.off=false)
variable (s:Nat)(vA:Value)(ra rd txg note:Nat)
include hV ok hC ho hall bW
theorem Pd (x:Pt)(b:List UInt8)(h:KC R ls pr n x b):Ct 134 [ptr t,x.agg] [gK T fr,C,V] fun u Bs=>∃ad O,u = .tuple #[.slice ad b.length b.length,.int .i64 0]/\Rd O 1 (.slice ad b.length b.length) b.length (ak b)/\Bs=[O,gK T fr,C,V]:=by
 have hg:=h.dY
 have ha:x.at_=(x.at_.toNat:Nat):=by have:=hg.2.2.1;omega
 exact Tx T fr p qs t pool tp pr n ls no V hV ok R C hC ho hall bW x hg h.top x.at_.toNat ha b b.length rfl h.len (by have:=h.fit;omega) h.sum h.has
theorem pX (a:Nat)(o:Ob)(bx:o.size<=65536)(A:Chunk)(hA:Wr a o A)(i:Nat)(hi:i<=100)(du:Pt->List UInt8)(hl:∀x,o.ay[i]? = some x->x≠ah->KC R ls pr n x (du x))(oQ:∀e∈o.fresh,e.2.length<=1024) :
  Ct 79 [ptr s,ptr a,.int .i64 i] [[(s,bS t vA ra rd txg note)],gK T fr,C,V,A] fun u Bs=>∃g,u = .tuple #[.slice (some ⟨g,0,none⟩) (aT o.size i) (aT o.size i),.int .i64 0]/\Bs=[[(g,av (ak (o.fN du i)) 5)],[(s,bS t vA ra rd txg note)],gK T fr,C,V,A]:=by
 obtain ⟨je,cP,DP,dP,cI,DI,r,LF,CF,VF,hP,hI,hM,hF,rfl⟩:=hA
 have cV:=TV a o.used o.size bx o.root (.slice je o.ay.length cP) (.slice dP o.index.length cI) r o.clean i oZ
 have hL:aT o.size i<=1024:=by unfold aT;omega
 have Ws:=hP.rd
 have zI:=GN (aT o.size i) (o.raw du i)
 have Th:Rd (gK T fr) 1 (.slice none 0 0) 0 (ak []):=Rd.nil _ _
 have afJ:=GN (aT o.size i) []
 have hrl:∀x:Pt,o.ay[i]? = some x->aH o.fresh i=none->o.raw du i=if x=ah then [] else du x:=fun x hx hf=>by unfold Ob.raw;rw [hf];simp only;rw [hx]
 unfold Ob.fN
 generalize aT o.size i=L at *
 refine st Tryz.func79 fun w0 => ?_
 refine gs ?_
 refine gc cV ?_
 rintro _ _ ⟨rfl,rfl⟩
 refine gm ?_;intro g
 rcases hF.look i with ⟨s7,jc, -⟩ | ⟨v,b,V1,D,V2,s7,jc,rfl,hD, -, -⟩
 ·by_cases bo:i<o.ay.length
  ·obtain ⟨x,hx⟩:∃x,o.ay[i]? = some x:=⟨_,List.getElem?_eq_getElem bo⟩
   have hr:=hrl x hx jc
   have hs:=ar Pt.aj o.ay i _ hx
   obtain ⟨gP,oP,rfl⟩:=Ws.addr oZ
   by_cases hz:x=ah
   ·rw [if_pos hz] at hr
    rw [hr]
    subst hz
    refine gy ?_
    refine gz ?_
    exact fin ⟨g,rfl,rfl⟩ aa
   ·rw [if_neg hz] at hr
    have Pe:=hl x hx hz
    have oM:=Pd T fr p qs t pool tp pr n ls no V hV ok R C hC ho hall bW x (du x) Pe
    rw [hr] at zI
    rw [hr]
    have LU:=Pe.bd
    refine gi ?_ ?_ <;> intro eP
    ·refine gd [0,4,8,12,16,20,24,28,32,36,40,47,50,54,58,62,66] ?_
     refine gc oM ?_
     rintro _ _ ⟨adO,O,rfl,hO,rfl⟩
     refine gy ?_
     refine gz ?_
     exact fin ⟨g,rfl,rfl⟩ aa
    ·exact absurd ((Pt.ext_iff x ah).2 (by simpa [ah] using eP)) hz
  ·have hr:o.raw du i=[]:=by unfold Ob.raw;rw [jc];simp only;rw [List.getElem?_eq_none oZ]
   rw [hr]
   refine gy ?_
   refine gz ?_
   exact fin ⟨g,rfl,rfl⟩ aa
 ·have hr:o.raw du i=b:=by unfold Ob.raw;rw [jc]
  have hbb:=oQ _ (aI jc)
  rw [hr] at zI
  rw [hr]
  obtain ⟨gf,cb,rfl⟩:=hD.slice
  have jq:=hD.rd
  refine gs ?_
  refine gy ?_
  refine gz ?_
  exact fin ⟨g,rfl,rfl⟩ aa
end
end Go.Proofs.YtcfioaeamfappaaGreatDoor
namespace Go.Sl
structure au where
 no:Nat
 b:List UInt8
 born:Nat->Nat
 gC:Nat->Bool
 v:Value
def lN (f:Nat->Nat):List Value:=(List.range 64).map fun k=>.int .u64 (f k)
def xv (f:Nat->Bool):List Value:=(List.range 64).map fun k=>.bool (f k)
def au.lay (o:au):List Value:=.int .i64 o.no :: o.v :: (lN o.born++xv o.gC)
def upd {α:Type}(f:Nat->α)(k:Nat)(x:α)(j:Nat):α:=if j=k then x else f j
theorem kN (f:Nat->Nat):(lN f).length=64:=by simp [lN]
theorem Pf (f:Nat->Bool):(xv f).length=64:=by simp [xv]
theorem au.aj (o:au):o.lay.length=130:=by simp [au.lay,kN,Pf]
theorem vX {α:Type}(g:α->Value)(f:Nat->α){k n:Nat}(x:α):((List.range n).map fun k=>g (f k)).set k (g x)=(List.range n).map fun j=>g (upd f k x j):=by
 apply List.ext_getElem (by simp)
 intro i h1 h2
 rw [List.getElem_set]
 simp only [List.getElem_map,List.getElem_range,upd]
 by_cases c:k=i
 ·subst c;simp
 ·rw [if_neg c,if_neg (fun h=>c h.symm)]
theorem KD (f:Nat->Nat)(k x:Nat):(lN f).set k (.int .u64 x)=lN (upd f k x):=vX (fun x:Nat=>Value.int .u64 x) f x
theorem Pg (f:Nat->Bool)(k:Nat)(x:Bool):(xv f).set k (.bool x)=xv (upd f k x):=vX Value.bool f x
theorem au.Ph (o:au){k:Nat}(hk:k<64):o.lay[2+k]? = some (.int .u64 (o.born k)):=by
 have e:o.lay=[.int .i64 o.no,o.v]++(lN o.born++xv o.gC):=rfl
 rw [e,List.getElem?_append_right (by simp),List.getElem?_append_left (by rw [kN];simp;omega)]
 simp [lN,hk]
theorem au.II (o:au){k:Nat}(hk:k<64):o.lay[66+k]? = some (.bool (o.gC k)):=by
 have e:o.lay=([.int .i64 o.no,o.v]++lN o.born)++xv o.gC:=rfl
 have h:([Value.int .i64 o.no,o.v]++lN o.born).length=66:=by simp [kN]
 rw [e,List.getElem?_append_right oZ,h]
 simp [xv,hk]
theorem au.vY (o:au){k:Nat}(hk:k<64)(x:Nat):o.lay.set (2+k) (.int .u64 x)=({ o with born:=upd o.born k x }:au).lay:=by
 have e:o.lay=[.int .i64 o.no,o.v]++(lN o.born++xv o.gC):=rfl
 rw [e,List.set_append_right _ _ (by simp),show 2+k - [Value.int .i64 o.no,o.v].length=k by simp,List.set_append_left _ _ (by rw [kN];exact hk),KD];rfl
theorem au.tC (o:au){k:Nat}(_:k<64)(x:Bool):o.lay.set (66+k) (.bool x)=({ o with gC:=upd o.gC k x }:au).lay:=by
 have e:o.lay=([.int .i64 o.no,o.v]++lN o.born)++xv o.gC:=rfl
 have h:([Value.int .i64 o.no,o.v]++lN o.born).length=66:=by simp [kN]
 rw [e,List.set_append_right _ _ oZ,h,show 66+k - 66=k by omega,Pg];rfl
theorem au.bC (o:au)(h:o.v.oneCell'=true):∀u∈o.lay,u.oneCell'=true:=fun u hu=>by
 simp only [au.lay,List.mem_cons,List.mem_append] at hu
 rcases hu with rfl | rfl | hu | hu
 ·rfl
 ·exact h
 ·obtain ⟨x, -,rfl⟩:=List.mem_map.1 hu;rfl
 ·obtain ⟨x, -,rfl⟩:=List.mem_map.1 hu;rfl
theorem au.Pj (o:au):o.lay[0]? = some (.int .i64 o.no):=rfl
theorem au.rD (o:au):o.lay[1]? = some o.v:=rfl
theorem au.adM (o:au)(k:Nat):o.lay.set 0 (.int .i64 k)=({ o with no:=k }:au).lay:=rfl
theorem au.TW (o:au)(v:Value):o.lay.set 1 v=({ o with v:=v }:au).lay:=rfl
attribute [irreducible] au.lay
def ey (l:List au)(k:Int):Option au:=l.find? fun o=>(o.no:Int)==k
def aS (l:List au):Nat:=(l.map fun o=>cost o.b.length).sum
def iB (l:List au)(k:Int):Nat:=match ey l k with
 | some o=>cost o.b.length
 | none=>0
def cy (l:List au)(k:Int)(size room:Nat):Bool:=decide (aS l+cost size - iB l k<=room)
def dF (o:au):Bool->List au->List au
 | d,[]=>if d then [] else [o]
 | d,x :: r=>(if d=false/\o.no<=x.no then [o] else [])++((if x.no=o.no then [] else [x])++dF o (d||decide (o.no<=x.no)) r)
theorem fg {l:List au}{k:Int}{o:au}(h:ey l k=some o):o∈l/\(o.no:Int)=k:=by
 unfold ey at h
 exact ⟨List.mem_of_find?_eq_some h,by simpa using List.find?_some h⟩
theorem Pk (l:List au)(k:Int):iB l k<=aS l:=by
 unfold iB
 cases h:ey l k with
 | none=>simp
 | some o =>
  have hm:=(fg h).1
  unfold aS
  have:∀(l:List au),o∈l->cost o.b.length<=(l.map fun o=>cost o.b.length).sum:=by
   intro l
   induction l with
   | nil=>intro h;cases h
   | cons x r ih =>
    intro h
    rw [List.map_cons,List.sum_cons]
    rcases List.mem_cons.1 h with rfl | h
    ·omega
    ·have:=ih h;omega
  exact this l hm
structure mJ (l:List au):Prop where
 jE:l.length<=112
 sm:∀o∈l,o.b.length<=65536
 no:∀o∈l,o.no<=112
theorem Dx {l:List au}(h:mJ l):aS l<=7728:=by
 have:∀l:List au,(∀o∈l,o.b.length<=65536)->aS l<=69*l.length:=by
  intro l
  induction l with
  | nil=>intro _;simp [aS]
  | cons o r ih =>
   intro h
   have h1:=lx (h o (List.mem_cons_self ..))
   have h2:=ih fun x hx=>h x (List.mem_cons_of_mem _ hx)
   simp only [aS,List.map_cons,List.sum_cons,List.length_cons] at *
   omega
 have h1:=this l h.sm
 have:=h.jE
 omega
theorem Pm {l:List au}{i:Nat}{k:Int}(hi:i<l.length)(h:∀o∈l.take i,(o.no:Int)≠k)(hk:(l[i].no:Int)≠k):∀o∈l.take (i+1),(o.no:Int)≠k:=fun o ho=>by
 rw [aG l hi] at ho
 rcases List.mem_append.1 ho with ho | ho
 ·exact h o ho
 ·rw [List.mem_singleton.1 ho];exact hk
theorem Y4 {l:List au}{i:Nat}{k:Int}(hi:i<l.length)(h:∀o∈l.take i,(o.no:Int)≠k)(hk:(l[i].no:Int)=k):ey l k=some l[i]:=by
 have e:ey l k=(l.take i++l.drop i).find? fun o=>(o.no:Int)==k:=by rw [List.take_append_drop];rfl
 rw [e,List.find?_append,List.find?_eq_none.2 fun o ho=>by simpa using h o ho,List.drop_eq_getElem_cons hi,List.find?_cons_of_pos (by simpa using hk)]
 rfl
theorem Dy {l:List au}{k:Int}(h:∀o∈l,(o.no:Int)≠k):ey l k=none:=by
 unfold ey
 exact List.find?_eq_none.2 fun o ho=>by simpa using h o ho
theorem GO {l:List au}{i:Nat}(hi:i<l.length):aS (l.take (i+1))=aS (l.take i)+cost l[i].b.length:=by
 unfold aS
 rw [aG l hi,List.map_append,List.sum_append]
 simp
theorem xw (l:List au)(i:Nat):aS (l.take i)<=aS l:=by
 conv=>rhs;rw [<-List.take_append_drop i l]
 unfold aS
 rw [List.map_append,List.sum_append]
 omega
end Go.Sl
namespace Go.Proofs.YtcfioaeamfappaaGreatDoor
open Go.Sl
set_option maxRecDepth 10000
set_option maxHeartbeats 4000000
abbrev eK (v:Value)(txg note room:Nat)(vG vS:Value):Obj:=av [v,.int .u64 txg,.int .u64 note,.int .i64 room,vG,vS] 61
def DE (O:Chunk)(l:List au):Prop:=∀o∈l,(∃ad c,o.v = .slice ad o.b.length c/\o.b.length<=c)/\Rd O 1 o.v o.b.length (ak o.b)
theorem cA (k:Int):Ct 112 [.int .i64 k] [] fun u Bs=>u = .bool (decide (1<=k/\k<=112))/\Bs=[]:=by
 refine st Tryz.func112 fun w0 => ?_
 refine gg ?_ ?_ <;> intro h1
 ·refine gz ?_
  exact fin ⟨congrArg _ (decide_eq_decide.2 oZ),rfl⟩ aa
 ·refine gz ?_
  exact fin ⟨congrArg _ (decide_eq_false oZ).symm,rfl⟩ aa
theorem vZ (n:Nat)(hn:n<=100000):Ct 160 [.int .i64 n] [] fun u Bs=>u = .int .i64 (cost n)/\Bs=[]:=by
 refine st Tryz.func160 fun w0 => ?_
 refine gi ?_ ?_ <;> intro h
 ·obtain rfl:n=0:=by omega
  refine gz ?_
  exact fin ⟨rfl,rfl⟩ aa
 ·have h1:(n - 1) / 1024<=100000:=Nat.le_trans (Nat.div_le_self _ _) oZ
  have h2:((n - 1) / 1024+1 - 1) / 16<=100000:=Nat.le_trans (Nat.div_le_self _ _) oZ
  refine gz ?_
  exact fin ⟨by unfold cost;rw [if_neg oZ];congr 2,rfl⟩ aa
section
variable (a:Nat)(l:List au)(aQ:mJ l)(txg note room:Nat)(vG vS:Value)(ad:Option Addr)(c:Nat)(D O:Chunk)(hD:Rd D 130 (.slice ad l.length c) l.length (l.flatMap au.lay))
include aQ hD
theorem nW (k:Int):Ct 8 [ptr a,.int .i64 k] [[(a,eK (.slice ad l.length c) txg note room vG vS)],D] fun u Bs=>((u = .int .i64 (-1)/\ey l k=none)\/∃i o,u = .int .i64 (i:Nat)/\l[i]? = some o/\ey l k=some o)/\Bs=[[(a,eK (.slice ad l.length c) txg note room vG vS)],D]:=by
 have nJ:=aQ.jE
 refine st Tryz.func8 fun w0 => ?_
 refine gl [0,1] (fun i:Nat=>[(5,.int .i64 i)]) (fun _=>[]) (fun i=>i<=l.length/\∀o∈l.take i,(o.no:Int)≠k) (fun i=>l.length - i) 0 ⟨by omega,by simp⟩ ?_
 rintro i ⟨hi,eV⟩
 refine gi ?_ ?_ <;> intro bh
 ·have bo:i<l.length:=by omega
  obtain ⟨g,off,rfl⟩:=hD.addr oZ
  have hs:=ar au.aj l i l[i] (by simp)
  have xe:=hs 0 _ (au.Pj _)
  refine gi ?_ ?_ <;> intro he
  ·have he:(l[i].no:Int)=k:=by simpa using he
   refine gz ?_
   exact fin ⟨.inr ⟨i,l[i],rfl,by simp,Y4 bo eV he⟩,rfl⟩ aa
  ·have he:(l[i].no:Int)≠k:=by simpa using he
   refine gn ?_
   exact ⟨i+1,⟨by omega,Pm bo eV he⟩,by omega,aq,_,aa⟩
 ·obtain rfl:i=l.length:=by omega
  rw [List.take_length] at eV
  refine gz ?_
  exact fin ⟨.inl ⟨rfl,Dy eV⟩,rfl⟩ aa
variable (hO:DE O l)
include hO
theorem TX:Ct 159 [ptr a] [[(a,eK (.slice ad l.length c) txg note room vG vS)],D] fun u Bs=>u = .int .i64 (aS l)/\Bs=[[(a,eK (.slice ad l.length c) txg note room vG vS)],D]:=by
 have nJ:=aQ.jE
 have zj:=Dx aQ
 refine st Tryz.func159 fun w0 => ?_
 refine gl [0] (fun i:Nat=>[(4,.int .i64 i),(3,.int .i64 (aS (l.take i)))]) (fun _=>[]) (fun i=>i<=l.length) (fun i=>l.length - i) 0 oZ ?_
 intro i hi
 refine gi ?_ ?_ <;> intro bh
 ·have bo:i<l.length:=by omega
  obtain ⟨g,off,rfl⟩:=hD.addr oZ
  have hs:=ar au.aj l i l[i] (by simp)
  obtain ⟨⟨j2,cv,hv, -⟩, -⟩:=hO l[i] (List.getElem_mem bo)
  have xg:=hs 1 _ (show l[i].lay[1]? = some (.slice j2 l[i].b.length cv) by rw [<-hv];exact au.rD _)
  have AY:=aQ.sm l[i] (List.getElem_mem bo)
  have hc:=lx AY
  have ht:=GO bo
  have hb:=xw l i
  refine gc (vZ l[i].b.length oZ) ?_
  rintro _ _ ⟨rfl,rfl⟩
  refine go ?_
  rw [<-ht]
  refine gn ?_
  exact ⟨i+1,by omega,by omega,aq,_,aa⟩
 ·obtain rfl:i=l.length:=by omega
  rw [List.take_length]
  refine gz ?_
  exact fin ⟨rfl,rfl⟩ aa
theorem Ai (k:Int)(size:Nat)(bx:size<=65536)(eN:room<=100000):Ct 113 [ptr a,.int .i64 k,.int .i64 size] [[(a,eK (.slice ad l.length c) txg note room vG vS)],D] fun u Bs=>u = .bool (cy l k size room)/\Bs=[[(a,eK (.slice ad l.length c) txg note room vG vS)],D]:=by
 have RN:=TX a l aQ txg note room vG vS ad c D O hD hO
 have gh:=nW a l aQ txg note room vG vS ad c D hD k
 have zj:=Dx aQ
 have qE:=Pk l k
 have Mt:=lx bx
 refine st Tryz.func113 fun w0 => ?_
 refine gc RN ?_
 rintro _ _ ⟨rfl,rfl⟩
 refine gc (vZ size oZ) ?_
 rintro _ _ ⟨rfl,rfl⟩
 refine gc gh ?_
 rintro _ _ ⟨⟨rfl,hn⟩ | ⟨i,o,rfl,hi,hn⟩,rfl⟩
 ·have e:iB l k=0:=by unfold iB;rw [hn]
  refine gz ?_
  exact fin ⟨by unfold cy;rw [e];exact congrArg _ (decide_eq_decide.2 oZ),rfl⟩ aa
 ·have bo:=(List.getElem?_eq_some_iff.1 hi).1
  have qG:=List.mem_of_getElem? hi
  have e:iB l k=cost o.b.length:=by unfold iB;rw [hn]
  have AY:=aQ.sm o qG
  have nJ:=aQ.jE
  obtain ⟨g,off,rfl⟩:=hD.addr oZ
  have hs:=ar au.aj l i o hi
  obtain ⟨⟨j2,cv,hv, -⟩, -⟩:=hO o qG
  have xg:=hs 1 _ (show o.lay[1]? = some (.slice j2 o.b.length cv) by rw [<-hv];exact au.rD _)
  refine gc (vZ o.b.length oZ) ?_
  rintro _ _ ⟨rfl,rfl⟩
  have hw:IntKind.i64.wrap (((aS l+cost size:Nat):Int) - ((cost o.b.length:Nat):Int))=((aS l+cost size - cost o.b.length:Nat):Int):=by rw [IntWalk.i64_in _ oZ];omega
  refine gz ?_
  exact fin ⟨by unfold cy;rw [e];exact congrArg _ (decide_eq_decide.2 oZ),rfl⟩ aa
end
end Go.Proofs.YtcfioaeamfappaaGreatDoor
namespace Go.Sl
def eH (all:List (Int×Ob)):Nat:=(all.map fun e=>cost e.2.size).sum
def fW (all:List (Int×Ob))(q:Int):Nat:=match aH all q with
 | some o=>cost o.size
 | none=>0
def nX (all:List (Int×Ob))(k:Int)(size room:Nat):Bool:=decide (eH all+cost size - fW all k<=room)
theorem yr:∀ {all:List (Int×Ob)},(all.map (·.1)).Nodup->eH all=((all.map (·.1)).map (fW all)).sum:=by
 intro all hn
 unfold eH
 rw [List.map_map]
 congr 1
 apply List.map_congr_left
 intro e he
 simp only [Function.comp,fW,eU hn he]
theorem KE {all:List (Int×Ob)}(q:Int):fW all q<=eH all:=by
 unfold fW
 cases h:aH all q with
 | none=>simp
 | some o =>
  obtain ⟨X,Y,e⟩:=List.append_of_mem (aI h)
  simp only [eH,e,List.map_append,List.map_cons,List.sum_append,List.sum_cons];omega
theorem Aj:∀ {all:List (Int×Ob)},(∀e∈all,e.2.size<=65536)->eH all<=69*all.length
 | [],_=>by simp [eH]
 | e :: r,h=>by
  have h1:=lx (h e (List.mem_cons_self ..))
  have h2:=Aj (all:=r) fun x hx=>h x (List.mem_cons_of_mem _ hx)
  simp only [eH,List.map_cons,List.sum_cons,List.length_cons] at *;omega
end Go.Sl
namespace Go.Proofs.YtcfioaeamfappaaGreatDoor
open Go.Sl
set_option maxRecDepth 10000
set_option maxHeartbeats 4000000
section
variable (s t pool:Nat)(tp:Tp)(pr:Bool)(n:Nat)(ls:List (Option Lv))(no:Nat)(V:Chunk)(hV:jd t pool tp pr n ls no V)(ok:dE tp pr n ls.length)(dx:n<=2048)(vA:Value)(ra rd txg note:Nat)
variable (LA:List (Int×Value))(CA:Chunk)(hA:Mp ra .i64 LA CA)(all:List (Int×Ob))(VA:Chunk)(hG:eT w9 LA all VA)(bx:∀e∈all,e.2.size<=65536)(hlen:all.length<=112)
include hA hG bx hlen
theorem Pn:Ct 11 [ptr s] [[(s,bS t vA ra rd txg note)],CA,VA] fun u Bs=>u = .int .i64 (eH all)/\Bs=[[(s,bS t vA ra rd txg note)],CA,VA]:=by
 have hk:=hG.keys
 have ek:=hA.nodup
 have adQ:(all.map (·.1)).Nodup:=by rw [hk];exact ek
 have RN:=yr adQ
 rw [hk] at RN
 have zj:=Aj bx
 refine st Tryz.func11 fun w0 => ?_
 refine gr ?_
 intro it DI hI
 refine gl [10] (fun ((acc,_):Nat×List (Int×Value)×Chunk)=>[(3,.int .i64 acc)]) (fun (_,_,DI)=>[CA,DI,VA]) (fun (acc,rest,DI)=>xZ ra it .i64 LA rest CA DI/\acc+((rest.map (·.1)).map (fW all)).sum=eH all) (fun (_,rest,_)=>rest.length) (0,LA,DI) ⟨hI,by rw [RN];simp⟩ ?_
 clear hI
 rintro ⟨acc,rest,DI⟩ ⟨hI,hs⟩
 refine Nl ?_ ?_
 ·rintro rfl
  refine gz ?_
  have:acc=eH all:=by simpa using hs
  subst this
  exact fin ⟨rfl,rfl⟩ aa
 ·rintro X q v Y GB rfl gM qB hE
  rcases hG.look q with ⟨h1, -⟩ | ⟨v',o,V1,D,V2,h1,h2,rfl,⟨a,rfl,hO⟩, -, -⟩
  ·rw [gM] at h1;cases h1
  ·obtain rfl:v=ptr a:=by rw [gM] at h1;exact Option.some.inj h1
   have ho:o.size<=65536:=bx _ (aI h2)
   have hca:fW all q=cost o.size:=by unfold fW;rw [h2]
   obtain ⟨je,cP,DP,dP,cI,xx,r,LF,CF,VF,hP,IC,hM,hF,rfl⟩:=hO
   simp only [List.map_append,List.map_cons,List.sum_append,List.sum_cons,hca] at hs
   refine Nn ?_
   refine gs ?_
   refine gc (F8 o.size oZ) ?_
   rintro _ _ ⟨rfl,rfl⟩
   refine gn ?_
   exact ⟨(acc+cost o.size,X++Y,GB),⟨qB,by simp only [List.map_append,List.sum_append];omega⟩,by simp only [List.length_append,List.length_cons];omega,aq,_,aa⟩
include hV ok dx in
theorem rE (k:Int)(size:Nat)(wa:size<=65536):Ct 111 [ptr s,.int .i64 k,.int .i64 size] [[(s,bS t vA ra rd txg note)],V,CA,VA] fun u Bs=>u = .bool (nX all k size (bD pr ls.length n / aN pr ls.length 1024 / 4 - 10))/\Bs=[[(s,bS t vA ra rd txg note)],V,CA,VA]:=by
 have RN:=Pn s t vA ra rd txg note LA CA hA all VA hG bx hlen
 have RH:=Pb s t pool tp pr n ls no V hV ok dx vA ra rd txg note
 have zj:=Aj bx
 have qE:=lx wa
 have Mt:=F8 size oZ
 have hca:=KE (all:=all) k
 unfold nX
 generalize bD pr ls.length n / aN pr ls.length 1024 / 4 - 10=room at *
 rcases hG.look k with ⟨h1,h2, -⟩ | ⟨v',o,V1,D,V2,h1,h2,rfl,⟨a,rfl,hO⟩, -, -⟩
 ·have hc0:fW all k=0:=by unfold fW;rw [h2]
  rw [hc0]
  refine st Tryz.func111 fun w0 => ?_
  refine gc RN ?_
  rintro _ _ ⟨rfl,rfl⟩
  refine gc Mt ?_
  rintro _ _ ⟨rfl,rfl⟩
  refine gc RH ?_
  rintro _ _ ⟨rfl,rfl⟩
  refine gz ?_
  exact fin ⟨congrArg _ (decide_eq_decide.2 oZ),rfl⟩ aa
 ·have ho:o.size<=65536:=bx _ (aI h2)
  have hc1:fW all k=cost o.size:=by unfold fW;rw [h2]
  rw [hc1] at hca ⊢
  have hco:=F8 o.size oZ
  obtain ⟨je,cP,DP,dP,cI,xx,r,LF,CF,VF,hP,IC,hM,hF,rfl⟩:=hO
  refine st Tryz.func111 fun w0 => ?_
  refine gs ?_
  refine gc RN ?_
  rintro _ _ ⟨rfl,rfl⟩
  refine gs ?_
  refine gc Mt ?_
  rintro _ _ ⟨rfl,rfl⟩
  refine gc hco ?_
  rintro _ _ ⟨rfl,rfl⟩
  refine gc RH ?_
  rintro _ _ ⟨rfl,rfl⟩
  refine gz ?_
  exact fin ⟨congrArg _ (decide_eq_decide.2 oZ),rfl⟩ aa
end
end Go.Proofs.YtcfioaeamfappaaGreatDoor
namespace Go.Sl
def dr (all:List (Int×Ob))(k:Int):Int×Int:=if 1<=k/\k<=112 then (match aH all k with
 | some o=>((o.size:Int),0)
 | none=>(0,130)) else (0,1)
theorem dR {all:List (Int×Ob)}{k:Int}(h:¬(1<=k/\k<=112)):dr all k=(0,1):=if_neg h
theorem fc {all:List (Int×Ob)}{k:Int}(h:1<=k/\k<=112)(h2:aH all k=none):dr all k=(0,130):=by unfold dr;rw [if_pos h,h2]
theorem eL {all:List (Int×Ob)}{k:Int}{o:Ob}(h:1<=k/\k<=112)(h2:aH all k=some o):dr all k=((o.size:Int),0):=by unfold dr;rw [if_pos h,h2]
end Go.Sl
namespace Go.Proofs.YtcfioaeamfappaaGreatDoor
open Go.Sl
set_option maxRecDepth 10000
set_option maxHeartbeats 4000000
section
variable (s tk:Nat)(vA:Value)(ra rd txg note:Nat)
theorem Y5:Ct 27 [ptr s] [[(s,bS tk vA ra rd txg note)]] fun u Bs=>u = .int .u64 txg/\Bs=[[(s,bS tk vA ra rd txg note)]]:=by
 refine st Tryz.func27 fun w0 => ?_
 refine gz ?_
 exact fin ⟨rfl,rfl⟩ aa
theorem TY:Ct 28 [ptr s] [[(s,bS tk vA ra rd txg note)]] fun u Bs=>u = .int .u64 note/\Bs=[[(s,bS tk vA ra rd txg note)]]:=by
 refine st Tryz.func28 fun w0 => ?_
 refine gz ?_
 exact fin ⟨rfl,rfl⟩ aa
variable (LA:List (Int×Value))(CA:Chunk)(hA:Mp ra .i64 LA CA)
include hA
theorem yt (hl:LA.length<=112):Ct 26 [ptr s] [[(s,bS tk vA ra rd txg note)],CA] fun u Bs=>∃ks ad c D,ks.Perm (LA.map (·.1))/\ks.Pairwise (· <= ·)/\u = .slice ad LA.length c/\az D 3 1 u LA.length (ints ks)/\Bs=[D,[(s,bS tk vA ra rd txg note)],CA]:=by
 refine st Tryz.func26 fun w0 => ?_
 refine gr ?_
 intro it DI hI
 refine gl [9] (fun ((v3,_):Value×List Int×List (Int×Value)×Chunk×Chunk)=>[(3,v3)]) (fun (_,_,_,D,DI)=>[CA,D,DI]) (fun (v3,ks,rest,D,DI)=>(∃ad c,v3 = .slice ad ks.length c)/\az D 3 1 v3 ks.length (ints ks)/\xZ ra it .i64 LA rest CA DI/\(ks++rest.map (·.1)).Perm (LA.map (·.1))) (fun (_,_,rest,_)=>rest.length) (.slice none 0 0,[],LA,[],DI) ⟨⟨none,0,rfl⟩,az.nil _ _,hI,List.Perm.refl _⟩ ?_
 clear hI
 rintro ⟨v3,ks,rest,D,DI⟩ ⟨⟨ad,c,rfl⟩,hD,hI,hp⟩
 have mj:=hp.length_eq
 rw [List.length_append,List.length_map,List.length_map] at mj
 refine Nl ?_ ?_
 ·rintro rfl
  rw [List.map_nil,List.append_nil] at hp
  simp only [List.length_nil,Nat.add_zero] at mj
  refine gc (HT ks _ rfl oZ D ad c hD) ?_
  rintro _ _ ⟨D',eo,rfl⟩
  refine gz ?_
  rw [<-mj]
  exact fin ⟨zn ks,ad,c,D',(qX ks).trans hp,sf ks,rfl,eo,rfl⟩ aa
 ·rintro X q v Y GB rfl gM qB hE
  simp only [List.length_append,List.length_cons] at mj
  refine Nn ?_
  refine gm ?_;intro b16
  refine gp ?_;intro ad2 c2 D2 BR
  refine gn ?_
  refine ⟨(_,ks++[q],X++Y,D2,GB),⟨⟨ad2,c2,by rw [List.length_append]⟩,by simpa [ints] using BR,qB, ?_⟩,by simp only [List.length_append,List.length_cons];omega,aq,_,aa⟩
  refine List.Perm.trans ?_ hp
  simp only [List.map_append,List.map_cons,List.append_assoc]
  exact List.Perm.append_left _ (show (q :: (X.map (·.1)++Y.map (·.1))).Perm (X.map (·.1)++q :: Y.map (·.1)) from List.perm_middle.symm)
variable (all:List (Int×Ob))(VA:Chunk)(hG:eT w9 LA all VA)
include hG
theorem IJ (k:Int):Ct 29 [ptr s,.int .i64 k] [[(s,bS tk vA ra rd txg note)],CA,VA] fun u Bs=>u = .tuple #[.int .i64 (dr all k).1,.int .i64 (dr all k).2]/\Bs=[[(s,bS tk vA ra rd txg note)],CA,VA]:=by
 by_cases hk:1<=k/\k<=112
 ·rcases hG.look k with ⟨h1,h2, -⟩ | ⟨v',o,V1,D,V2,h1,h2,rfl,⟨a,rfl,hO⟩, -, -⟩
  ·rw [fc hk h2]
   refine st Tryz.func29 fun w0 => ?_
   refine gc (nr s tk vA ra rd txg note LA CA hA k hk h1) ?_
   rintro _ _ ⟨rfl,rfl⟩
   refine gz ?_
   exact fin ⟨rfl,rfl⟩ aa
  ·rw [eL hk h2]
   obtain ⟨je,cP,DP,dP,cI,xx,r,LF,CF,VF,hP,IC,hM,hF,rfl⟩:=hO
   refine st Tryz.func29 fun w0 => ?_
   refine gs ?_
   refine gc (lF s tk vA ra rd txg note LA CA hA k hk a h1) ?_
   rintro _ _ ⟨rfl,rfl⟩
   refine gz ?_
   exact fin ⟨rfl,rfl⟩ aa
 ·rw [dR hk]
  refine st Tryz.func29 fun w0 => ?_
  refine gc (kM s tk vA ra rd txg note k hk) ?_
  rintro _ _ ⟨rfl,rfl⟩
  refine gz ?_
  exact fin ⟨rfl,rfl⟩ aa
theorem TZ (k:Int):Ct 52 [ptr s,.int .i64 k] [[(s,bS tk vA ra rd txg note)],CA,VA] fun u Bs=>u = .int .i64 (dr all k).2/\∃L' C' V',Mp ra .i64 L' C'/\eT w9 L' (if (dr all k).2=0 then oB all k else all) V'/\Bs=[[(s,bS tk vA ra rd txg note)],C',V']:=by
 by_cases hk:1<=k/\k<=112
 ·rcases hG.look k with ⟨h1,h2, -⟩ | ⟨v',o,V1,D,V2,h1,h2, -⟩
  ·rw [fc hk h2]
   refine st Tryz.func52 fun w0 => ?_
   refine gc (nr s tk vA ra rd txg note LA CA hA k hk h1) ?_
   rintro _ _ ⟨rfl,rfl⟩
   refine gz ?_
   exact fin ⟨rfl,LA,CA,VA,hA,hG,rfl⟩ aa
  ·rw [eL hk h2]
   obtain ⟨o',V1',D',V2',h3,rfl,hD,Po⟩:=hG.cut hA.nodup h1
   obtain ⟨a,rfl,hO⟩:=hD
   have afK:(jP LA k).isSome=true:=by rw [h1];rfl
   refine st Tryz.func52 fun w0 => ?_
   refine gs ?_
   refine gc (lF s tk vA ra rd txg note LA CA hA k hk a h1) ?_
   rintro _ _ ⟨rfl,rfl⟩
   refine gx ?_
   intro C' bA
   refine gz ?_
   exact fin ⟨rfl,_,C',_,bA,Po,rfl⟩ aa
 ·rw [dR hk]
  refine st Tryz.func52 fun w0 => ?_
  refine gc (kM s tk vA ra rd txg note k hk) ?_
  rintro _ _ ⟨rfl,rfl⟩
  refine gz ?_
  exact fin ⟨rfl,LA,CA,VA,hA,hG,rfl⟩ aa
end
section
variable (a:Nat)(l:List au)(aQ:mJ l)(txg note room:Nat)(vG vS:Value)(ad:Option Addr)(c:Nat)(D:Chunk)(hD:Rd D 130 (.slice ad l.length c) l.length (l.flatMap au.lay))
include aQ hD
theorem T0 (ks:List Int)(Fk:ks=l.map fun o=>(o.no:Int))(E:Chunk)(Ry:Option Addr)(c0:Nat)(hE:az E 3 1 (.slice Ry l.length c0) l.length (ints ks)):Ct 25 [.slice Ry l.length c0,ptr a] [E,[(a,eK (.slice ad l.length c) txg note room vG vS)],D] fun u Bs=>u = .bool true/\∃E',Bs=[E',[(a,eK (.slice ad l.length c) txg note room vG vS)],D]:=by
 have nJ:=aQ.jE
 obtain ⟨h1,h2,⟨hv,h3,rfl⟩ | ⟨g,c1,r,hv,rfl,h3,h4,h5⟩⟩:=hE
 ·obtain rfl:=List.length_eq_zero_iff.1 h3
  cases hv
  refine st Tryz.func25 fun w0 => ?_
  refine gl [0,1] (fun i:Nat=>[(5,.int .i64 i)]) (fun _=>[]) (fun i=>i=0) (fun i=>0) 0 rfl ?_
  rintro i rfl
  refine gz ?_
  exact fin ⟨rfl,_,rfl⟩ aa
 ·cases hv
  refine st Tryz.func25 fun w0 => ?_
  refine gl [0,1] (fun ((i,_):Nat×List Value)=>[(5,.int .i64 i)]) (fun (i,pre)=>[[(g,av (pre++((ints ks).drop i++r)) 3)]]) (fun (i,pre)=>i<=l.length/\pre.length=i) (fun (i,_)=>l.length - i) (0,[]) ⟨by omega,rfl⟩ ?_
  rintro ⟨i,pre⟩ ⟨hi,sK⟩
  refine gi ?_ ?_ <;> intro bh
  ·have bo:i<l.length:=by omega
   obtain ⟨gD,off,rfl⟩:=hD.addr oZ
   have hs:=ar au.aj l i l[i] (by simp)
   have xe:=hs 0 _ (au.Pj _)
   have OD:(ints ks).drop i = .int .i64 (l[i].no:Int) :: (ints ks).drop (i+1):=by
    rw [List.drop_eq_getElem_cons oZ]
    congr 1
    subst Fk
    simp [ints]
   rw [OD]
   have bV:(pre++(.int .i64 (l[i].no:Int) :: (ints ks).drop (i+1)++r))[i]? = some (.int .i64 (l[i].no:Int)):=by
    rw [List.getElem?_append_right oZ,sK,Nat.sub_self];rfl
   have eQ:(pre++(.int .i64 (l[i].no:Int) :: (ints ks).drop (i+1)++r)).set i (.int .i64 (-1))=(pre++[.int .i64 (-1)])++((ints ks).drop (i+1)++r):=by
    rw [List.set_append_right _ _ oZ,sK,Nat.sub_self,List.append_assoc];rfl
   refine go ?_
   rw [eQ]
   refine gn ?_
   exact ⟨(i+1,pre++[.int .i64 (-1)]),⟨by omega,by simp [sK]⟩,by simp only;omega,aq,_,aa⟩
  ·obtain rfl:i=l.length:=by omega
   refine gz ?_
   exact fin ⟨rfl,_,rfl⟩ aa
end
end Go.Proofs.YtcfioaeamfappaaGreatDoor
namespace Go.Sl
def Ob.byte (rd:Pt->List UInt8)(o:Ob)(j:Nat):UInt8:=((o.raw rd (j / 1024))[j % 1024]?).getD 0
def Ob.l8 (rd:Pt->List UInt8)(o:Ob)(a m:Nat):List UInt8:=(List.range' a m).map (o.byte rd)
section
variable (rd:Pt->List UInt8)(o:Ob)
theorem Ob.ns (a m:Nat):(o.l8 rd a m).length=m:=by simp [Ob.l8]
theorem Ob.oC (a m k:Nat):o.l8 rd a m++o.l8 rd (a+m) k=o.l8 rd a (m+k):=by
 unfold Ob.l8
 rw [<-List.map_append,List.range'_append_1]
theorem Ob.Pp (a m k:Nat):(o.l8 rd a m).drop k=o.l8 rd (a+k) (m - k):=by
 unfold Ob.l8
 rw [<-List.map_drop,List.drop_range'];simp
theorem Ob.DJ (a m k:Nat):(o.l8 rd a m).take k=o.l8 rd a (min k m):=by
 rcases Nat.le_total k m with h | h
 ·rw [Nat.min_eq_left h,show m=k+(m - k) by omega,<-Ob.oC]
  exact List.take_left' (Ob.ns ..)
 ·rw [Nat.min_eq_right h,List.take_of_length_le (by rw [Ob.ns];exact h)]
theorem Ob.nu (i:Nat):o.fN rd i=o.l8 rd (i*1024) (aT o.size i):=by
 unfold Ob.fN
 have hL:aT o.size i<=1024:=by unfold aT;omega
 generalize aT o.size i=L at *
 apply List.ext_getElem
 ·rw [dQ,Ob.ns]
 ·intro k h1 h2
  rw [dQ] at h1
  have e1:(i*1024+k) / 1024=i:=by omega
  have e2:(i*1024+k) % 1024=k:=by omega
  simp only [Ob.l8,List.getElem_map,List.getElem_range',Nat.one_mul,Ob.byte,e1,e2,dH]
  by_cases c:k<(o.raw rd i).length
  ·rw [List.getElem_append_left (by simp;omega)]
   simp [List.getElem?_eq_getElem c]
  ·rw [List.getElem_append_right (by simp;omega)]
   rw [List.getElem?_eq_none oZ]
   simp
end
def dB (size:Nat)(at_ many:Nat):Nat:=min many (size - at_)
end Go.Sl
namespace Go.Proofs.YtcfioaeamfappaaGreatDoor
open Go.Sl
set_option maxRecDepth 10000
set_option maxHeartbeats 4000000
section
variable (T:TypeId)(fr:Nat×Nat)(p:Nat)(qs:List Nat)(t pool:Nat)(tp:Tp)(pr:Bool)(n:Nat)(ls:List (Option Lv))(no:Nat)(V:Chunk)(hV:jd t pool tp pr n ls no V)(ok:dE tp pr n ls.length)(R:Rk)(C:Chunk)(hC:br p qs R C)(ho:dI qs R n ls)(hall:∀x∈ls,x≠none)(bW:R.off=false)
variable (s:Nat)(vA:Value)(ra rd txg note:Nat)(LA:List (Int×Value))(CA:Chunk)(hA:Mp ra .i64 LA CA)(all:List (Int×Ob))(VA:Chunk)(hG:eT w9 LA all VA)
theorem KF (k a m:Int)(h:a<0\/m<0):Ct 30 [ptr s,.int .i64 k,.int .i64 a,.int .i64 m] [[(s,bS t vA ra rd txg note)]] fun u Bs=>u = .tuple #[.slice none 0 0,.int .i64 1]/\Bs=[[(s,bS t vA ra rd txg note)]]:=by
 refine st Tryz.func30 fun w0 => ?_
 rcases (show a<0\/(¬a<0/\m<0) by omega) with h1 | ⟨h1,h2⟩
 ·refine gz ?_
  exact fin ⟨rfl,rfl⟩ aa
 ·refine gz ?_
  exact fin ⟨rfl,rfl⟩ aa
include hA hG
theorem Pq (k:Int)(a m:Nat)(h:(dr all k).2≠0):Ct 30 [ptr s,.int .i64 k,.int .i64 a,.int .i64 m] [[(s,bS t vA ra rd txg note)],CA,VA] fun u Bs=>u = .tuple #[.slice none 0 0,.int .i64 (dr all k).2]/\Bs=[[(s,bS t vA ra rd txg note)],CA,VA]:=by
 by_cases hk:1<=k/\k<=112
 ·rcases hG.look k with ⟨h1,h2, -⟩ | ⟨v',o,V1,D,V2,h1,h2, -⟩
  ·rw [fc hk h2]
   refine st Tryz.func30 fun w0 => ?_
   refine gc (nr s t vA ra rd txg note LA CA hA k hk h1) ?_
   rintro _ _ ⟨rfl,rfl⟩
   refine gz ?_
   exact fin ⟨rfl,rfl⟩ aa
  ·rw [eL hk h2] at h;exact absurd rfl h
 ·rw [dR hk]
  refine st Tryz.func30 fun w0 => ?_
  refine gc (kM s t vA ra rd txg note k hk) ?_
  rintro _ _ ⟨rfl,rfl⟩
  refine gz ?_
  exact fin ⟨rfl,rfl⟩ aa
include hV ok hC ho hall bW
theorem IK (k:Int)(hk:1<=k/\k<=112)(a m:Nat)(KG:a<9223372036854775808/\m<9223372036854775808)(o:Ob)(hl:aH all k=some o)(bx:o.size<=65536)(du:Pt->List UInt8)(Pe:∀x∈o.ay,x≠ah->KC R ls pr n x (du x))(oQ:∀e∈o.fresh,e.2.length<=1024) :
  Ct 30 [ptr s,.int .i64 k,.int .i64 a,.int .i64 m] [[(s,bS t vA ra rd txg note)],gK T fr,C,V,CA,VA] fun u Bs=>∃ad c D,u = .tuple #[.slice ad (dB o.size a m) c,.int .i64 0]/\az D 5 1 (.slice ad (dB o.size a m) c) (dB o.size a m) (ak (o.l8 du a (dB o.size a m)))/\Bs=[D,[(s,bS t vA ra rd txg note)],gK T fr,C,V,CA,VA]:=by
 rcases hG.look k with ⟨-,h2, -⟩ | ⟨v',o',V1,D,V2,h1,h2,rfl,⟨ao,rfl,hO⟩, -, -⟩
 ·rw [hl] at h2;cases h2
 ·obtain rfl:o=o':=by rw [hl] at h2;exact Option.some.inj h2
  have ef:=fun i hi=>pX T fr p qs t pool tp pr n ls no V hV ok R C hC ho hall bW s vA ra rd txg note ao o bx D hO i hi du (fun x hx=>Pe x (List.mem_of_getElem? hx)) oQ
  obtain ⟨N,hN⟩:∃N,N=dB o.size a m:=⟨_,rfl⟩
  rw [<-hN]
  unfold dB at hN
  have FY:(a:Int)<9223372036854775808/\(m:Int)<9223372036854775808:=by omega
  refine st Tryz.func30 fun w0 => ?_
  refine gs ?_
  refine gc (lF s t vA ra rd txg note LA CA hA k hk ao h1) ?_
  rintro _ _ ⟨rfl,rfl⟩
  refine gl [0,10] (fun ((i,q,v12,_):Nat×Nat×Value×Chunk)=>[(13,.int .i64 i),(2,.int .i64 (a+q:Nat)),(3,.int .i64 (m - q:Nat)),(12,v12)]) (fun (_,_,_,E)=>[E,[(s,bS t vA ra rd txg note)],gK T fr,C,V,D]) (fun (i,q,v12,E)=>q<=N/\(q<N->i=(a+q) / 1024)/\i<=9007199254740992/\(∃ad c,v12 = .slice ad q c)/\az E 5 1 v12 q (ak (o.l8 du a q))) (fun (_,q,_,_)=>N - q) (a / 1024,0,.slice none 0 0,[]) ⟨by omega,fun _=>rfl,by omega,⟨none,0,rfl⟩,az.nil _ _⟩ ?_
  rintro ⟨i,q,v12,E⟩ ⟨hq,hi,hib,⟨ad,c,rfl⟩,hE⟩
  by_cases Gh:q<N
  ·have jC:a+q<o.size/\0<m - q:=by omega
   have hii:=hi Gh
   have wb:i<=100:=by omega
   have GP:=ef i wb
   rw [Ob.nu] at GP
   obtain ⟨L,hL⟩:∃L,L=aT o.size i:=⟨_,rfl⟩
   rw [<-hL] at GP
   unfold aT at hL
   obtain ⟨d,hd⟩:∃d,d=a+q - i*1024:=⟨_,rfl⟩
   obtain ⟨e,he⟩:∃e,e=min (L - d) (m - q):=⟨_,rfl⟩
   have nZ:((ak (o.l8 du (i*1024) L)).drop (d*1)).take ((L - d)*1)=ak (o.l8 du (a+q) (L - d)):=by
    rw [Nat.mul_one,Nat.mul_one,aY,aL,Ob.Pp,Ob.DJ,show i*1024+d=a+q by omega,Nat.min_self]
   have Yz:((ak (o.l8 du (a+q) (L - d))).drop (0*1)).take ((e - 0)*1)=ak (o.l8 du (a+q) e):=by
    rw [Nat.zero_mul,List.drop_zero,Nat.sub_zero,Nat.mul_one,aL,Ob.DJ,show min e (L - d)=e by omega]
   have LV:L - d=L - d:=rfl
   have dx:e - 0=e:=rfl
   have j3:IntKind.i64.wrap (((a+q:Nat):Int) - ((i*1024:Nat):Int))=(d:Int):=by rw [IntWalk.i64_in _ oZ];omega
   obtain ⟨je,cP,DP,dP,cI,xx,r,LF,CF,VF,hP,IC,hM,hF,rfl⟩:=hO
   refine gs ?_
   refine gc GP ?_
   rintro _ _ ⟨g,rfl,rfl⟩
   refine gs ?_
   have hRg:Rd [(g,av (ak (o.l8 du (i*1024) L)) 5)] 1 (.slice (some ⟨g,0,none⟩) L L) L (ak (o.l8 du (i*1024) L)):=aw (by rw [ai,Ob.ns,Nat.mul_one]) (aK _) oZ _
   refine gw ?_;intro ad2 kr
   clear hRg
   refine go ?_
   rw [show min ((L - d:Nat):Int) ((m - q:Nat):Int)=(e:Int) by omega]
   refine gw ?_;intro fJ zx
   clear kr
   refine gp ?_;intro pF c4 E4 hE4
   have Y6:ak (o.l8 du a q)++ak (o.l8 du (a+q) e)=ak (o.l8 du a (q+e)):=by rw [<-aE,Ob.oC]
   rw [Y6] at hE4
   refine gn ?_
   exact ⟨(i+1,q+e,_,E4),⟨by omega,fun h=>by omega,by omega,⟨pF,c4,rfl⟩,hE4⟩,by simp only;omega,aq,_,aa⟩
  ·obtain rfl:q=N:=by omega
   obtain ⟨je,cP,DP,dP,cI,xx,r,LF,CF,VF,hP,IC,hM,hF,rfl⟩:=hO
   refine gs ?_
   by_cases bh:a+q<o.size
   ·refine gz ?_
    exact fin ⟨ad,c,E,rfl,hE,rfl⟩ aa
   ·refine gz ?_
    exact fin ⟨ad,c,E,rfl,hE,rfl⟩ aa
end
end Go.Proofs.YtcfioaeamfappaaGreatDoor
namespace Go.Sl
set_option maxRecDepth 10000
def mK (o:Ob)(txg i:Nat):Bool:=(match o.ay[i]? with
 | some x=>decide (txg<x.bj)
 | none=>false)||(aH o.fresh (i:Int)).isSome
def cn (o:Ob)(txg:Nat):List Bool:=(List.range 64).map (mK o txg)
theorem KH (o:Ob)(txg:Nat):(cn o txg).length=64:=by simp [cn]
theorem Pr {o:Ob}{txg i:Nat}(h:i<64):(cn o txg)[i]? = some (mK o txg i):=by simp [cn,h]
def bu (bs:List Bool)(i:Nat):List Pt:=(bs.take i).map qP++List.replicate (64 - i) ah
theorem Ps {pre post:List Pt}{i:Nat}(h:pre.length=i):(aO (pre++ah :: post)).set (i*9+3) (.int .u64 1)=aO (pre++qP true :: post):=by
 subst h
 induction pre with
 | nil=>rfl
 | cons x r ih =>
  have e1:aO (x :: r++ah :: post)=x.lay++aO (r++ah :: post):=rfl
  have e2:aO (x :: r++qP true :: post)=x.lay++aO (r++qP true :: post):=rfl
  rw [e1,e2,<-ih,List.length_cons,List.set_append_right _ _ (by rw [Pt.aj];omega),Pt.aj]
  congr 2
  omega
theorem wc {bs:List Bool}{i:Nat}(hi:i<64):bu bs i=(bs.take i).map qP++ah :: List.replicate (64 - (i+1)) ah:=by
 unfold bu
 rw [show 64 - i=(64 - (i+1))+1 by omega,List.replicate_succ]
theorem yu {bs:List Bool}(hb:bs.length=64){i:Nat}(hi:i<64)(h:bs[i]? = some true):(aO (bu bs i)).set (i*9+3) (.int .u64 1)=aO (bu bs (i+1)):=by
 rw [wc hi,Ps (by rw [List.length_map,List.length_take,hb];omega)]
 unfold bu
 rw [List.take_add_one,h]
 simp
theorem DM {bs:List Bool}(hb:bs.length=64){i:Nat}(hi:i<64)(h:bs[i]? = some false):bu bs (i+1)=bu bs i:=by
 rw [wc hi]
 unfold bu
 rw [List.take_add_one,h]
 simp [qP,ah]
theorem ny {bs:List Bool}(hb:bs.length=64){i:Nat}(hi:i<=64):(aO (bu bs i)).length=576:=by
 have:∀l:List Pt,(aO l).length=9*l.length:=fun l=>by
  induction l with
  | nil=>rfl
  | cons x r ih=>simp only [aO,List.flatMap_cons,List.length_append,Pt.aj,List.length_cons] at *;omega
 rw [this,bu];simp;omega
end Go.Sl
namespace Go.Proofs.YtcfioaeamfappaaGreatDoor
open Go.Sl
set_option maxRecDepth 10000
set_option maxHeartbeats 4000000
section
variable (s tk:Nat)(vA:Value)(ra rd txg note:Nat)(LA:List (Int×Value))(CA:Chunk)(hA:Mp ra .i64 LA CA)(all:List (Int×Ob))(VA:Chunk)(hG:eT w9 LA all VA)
include hA hG
theorem KJ (k:Int)(g:Nat)(h:(dr all k).2≠0):Ct 62 [ptr s,.int .i64 k,.int .u64 g] [[(s,bS tk vA ra rd txg note)],CA,VA] fun u Bs=>u = .tuple #[.slice none 0 0,.int .i64 (dr all k).2]/\Bs=[[(s,bS tk vA ra rd txg note)],CA,VA]:=by
 by_cases hk:1<=k/\k<=112
 ·rcases hG.look k with ⟨h1,h2, -⟩ | ⟨v',o,V1,D,V2,h1,h2, -⟩
  ·rw [fc hk h2]
   refine st Tryz.func62 fun w0 => ?_
   refine gc (nr s tk vA ra rd txg note LA CA hA k hk h1) ?_
   rintro _ _ ⟨rfl,rfl⟩
   refine gz ?_
   exact fin ⟨rfl,rfl⟩ aa
  ·rw [eL hk h2] at h;exact absurd rfl h
 ·rw [dR hk]
  refine st Tryz.func62 fun w0 => ?_
  refine gc (kM s tk vA ra rd txg note k hk) ?_
  rintro _ _ ⟨rfl,rfl⟩
  refine gz ?_
  exact fin ⟨rfl,rfl⟩ aa
theorem Pu (k:Int)(hk:1<=k/\k<=112)(g:Nat)(o:Ob)(hl:aH all k=some o)(bx:o.size<=65536) :
  Ct 62 [ptr s,.int .i64 k,.int .u64 g] [[(s,bS tk vA ra rd txg note)],CA,VA] fun u Bs=>∃ad c D,u = .tuple #[.slice ad (l7 o.size 0 (cn o g) []).length c,.int .i64 0]/\az D 150 2 (.slice ad (l7 o.size 0 (cn o g) []).length c) (l7 o.size 0 (cn o g) []).length ((l7 o.size 0 (cn o g) []).flatMap Sp.lay)/\Bs=[D,[(s,bS tk vA ra rd txg note)],CA,VA]:=by
 rcases hG.look k with ⟨-,h2, -⟩ | ⟨v',o',V1,D,V2,h1,h2,rfl,⟨ao,rfl,hO⟩, -, -⟩
 ·rw [hl] at h2;cases h2
 ·obtain rfl:o=o':=by rw [hl] at h2;exact Option.some.inj h2
  obtain ⟨je,cP,DP,dP,cI,xx,r,LF,CF,VF,hP,IC,hM,hF,rfl⟩:=hO
  have Ws:=hP.rd
  have cV:=KH o g
  refine st Tryz.func62 fun w0 => ?_
  refine gs ?_
  refine gc (lF s tk vA ra rd txg note LA CA hA k hk ao h1) ?_
  rintro _ _ ⟨rfl,rfl⟩
  refine gm ?_;intro g10 C10 abq
  have hC:C10=[(g10,av (aO (bu (cn o g) 0)) 85)]:=by
   rcases abq.2.2 with ⟨h,_⟩ | ⟨g',c',r',hv,rfl,_,_,hlen⟩
   ·cases h
   ·cases hv
    have h3:=abq.1
    obtain rfl:r'=[]:=List.eq_nil_of_length_eq_zero oZ
    rw [List.append_nil]
    have:(List.replicate 64 ah.lay).flatten=aO (bu (cn o g) 0):=by
     rw [pP 64 ah Pt.lay];rfl
    rw [<-this];rfl
  subst hC
  refine gl [2,8,10,24,25] (fun (i:Nat)=>[(26,.int .i64 i)]) (fun i=>[[(g10,av (aO (bu (cn o g) i)) 85)]]) (fun i=>i<=64) (fun i=>64 - i) 0 oZ ?_
  rintro i hi
  refine gi ?_ ?_ <;> intro bh
  ·have bo:i<64:=by omega
   have GP:(cn o g)[i]? = some (mK o g i):=Pr bo
   have xm:=ny cV hi
   have nz:∀b:Bool,mK o g i=b->(match b with | true=>(aO (bu (cn o g) i)).set (i*9+3) (.int .u64 1) | false=>aO (bu (cn o g) i))=aO (bu (cn o g) (i+1)):=fun b hb=>by
    rw [hb] at GP
    cases b
    ·rw [DM cV bo GP]
    ·exact yu cV bo GP
   rcases hF.look i with ⟨f1,f2, -⟩ | ⟨vf,bf,W1,F1,W2,f1,f2, -⟩
   ·by_cases hip:i<o.ay.length
    ·obtain ⟨x,hx⟩:∃x,o.ay[i]? = some x:=⟨_,List.getElem?_eq_getElem hip⟩
     have hs:=ar Pt.aj o.ay i _ hx
     have hs3:=hs 3 _ rfl
     obtain ⟨gP,oP,rfl⟩:=Ws.addr oZ
     refine gi ?_ ?_ <;> intro hbt
     ·have nz:(aO (bu (cn o g) i)).set (i*9+3) (.int .u64 1)=aO (bu (cn o g) (i+1)):=nz true (by unfold mK;rw [hx,f2];simp;try omega)
      refine gn ?_
      rw [nz]
      exact ⟨i+1,by omega,by omega,aq,_,aa⟩
     ·have nz:aO (bu (cn o g) i)=aO (bu (cn o g) (i+1)):=nz false (by unfold mK;rw [hx,f2];simp;try omega)
      refine gn ?_
      rw [nz]
      exact ⟨i+1,by omega,by omega,aq,_,aa⟩
    ·have hx:o.ay[i]? = none:=List.getElem?_eq_none oZ
     have nz:aO (bu (cn o g) i)=aO (bu (cn o g) (i+1)):=nz false (by unfold mK;rw [hx,f2];rfl)
     refine gn ?_
     rw [nz]
     exact ⟨i+1,by omega,by omega,aq,_,aa⟩
   ·by_cases hip:i<o.ay.length
    ·obtain ⟨x,hx⟩:∃x,o.ay[i]? = some x:=⟨_,List.getElem?_eq_getElem hip⟩
     have hs:=ar Pt.aj o.ay i _ hx
     have hs3:=hs 3 _ rfl
     obtain ⟨gP,oP,rfl⟩:=Ws.addr oZ
     refine gi ?_ ?_ <;> intro hbt
     ·have nz:(aO (bu (cn o g) i)).set (i*9+3) (.int .u64 1)=aO (bu (cn o g) (i+1)):=nz true (by unfold mK;rw [hx,f2];simp;try omega)
      have afL:((aO (bu (cn o g) i)).set (i*9+3) (.int .u64 1)).length=576:=by rw [List.length_set];exact xm
      refine gn ?_
      rw [List.set_set,nz]
      exact ⟨i+1,by omega,by omega,aq,_,aa⟩
     ·have nz:(aO (bu (cn o g) i)).set (i*9+3) (.int .u64 1)=aO (bu (cn o g) (i+1)):=nz true (by unfold mK;rw [hx,f2];simp;try omega)
      refine gn ?_
      rw [nz]
      exact ⟨i+1,by omega,by omega,aq,_,aa⟩
    ·have hx:o.ay[i]? = none:=List.getElem?_eq_none oZ
     have nz:(aO (bu (cn o g) i)).set (i*9+3) (.int .u64 1)=aO (bu (cn o g) (i+1)):=nz true (by unfold mK;rw [hx,f2];rfl)
     refine gn ?_
     rw [nz]
     exact ⟨i+1,by omega,by omega,aq,_,aa⟩
  ·obtain rfl:i=64:=by omega
   have jo:bu (cn o g) 64=(cn o g).map qP:=by unfold bu;rw [List.take_of_length_le oZ];simp
   rw [jo]
   have hR:Rd [(g10,av (aO ((cn o g).map qP)) 85)] 9 (.slice (some ⟨g10,0,none⟩) 64 64) 64 (aO ((cn o g).map qP)):=by
    have h9:=ny cV (Nat.le_refl 64)
    rw [jo] at h9
    exact aw oZ (fun u hu=>by obtain ⟨x, -,hx⟩:=List.mem_flatMap.1 hu;exact Pt.bC x u hx) oZ _
   refine gc (TF _ _ 64 o.size (cn o g) cV bx hR) ?_
   rintro _ _ ⟨ad,c,D,rfl,hD,rfl⟩
   refine gz ?_
   exact fin ⟨ad,c,D,rfl,hD,rfl⟩ aa
end
end Go.Proofs.YtcfioaeamfappaaGreatDoor
namespace Go.Sl
def bB:Ob:=⟨true,0,ah,[],[],[],false⟩
def Ob.at (all:List (Int×Ob))(k:Int):Ob:=(aH all k).getD bB
def wrB (old:Nat->UInt8)(at_:Nat)(b:List UInt8)(j:Nat):UInt8:=if at_<=j/\j<at_+b.length then (b[j - at_]?).getD 0 else old j
def jG (old:Nat->UInt8)(at_:Nat)(b:List UInt8)(size i:Nat):List UInt8:=(List.range' (i*1024) (aT size i)).map (wrB old at_ b)
theorem iC (old:Nat->UInt8)(at_:Nat)(b:List UInt8)(size i:Nat):(jG old at_ b size i).length=aT size i:=by simp [jG]
def cQ (at_ m:Nat)(q:Int):Bool:=decide (0<=q/\(at_:Int)<(q+1)*1024/\q*1024<at_+m/\0<m)
theorem IL {old:Nat->UInt8}{at_:Nat}{b:List UInt8}{size i f d L:Nat}(hL:L=aT size i)(hs:at_+b.length<=size)(h1:at_<=f)(h2:i*1024<=f)(h3:f<(i+1)*1024)(h4:f<at_+b.length)(hd:d=f - i*1024)(h5:f=at_\/f=i*1024) :
  ((List.range' (i*1024) L).map old).take d++(b.drop (f - at_)).take (min ((i+1)*1024) (at_+b.length) - f)++((List.range' (i*1024) L).map old).drop (d+(min ((i+1)*1024) (at_+b.length) - f))=jG old at_ b size i:=by
 have KK:L=min 1024 (size - i*1024):=hL
 obtain ⟨e,he⟩:∃e,e=min ((i+1)*1024) (at_+b.length) - f:=⟨_,rfl⟩
 rw [<-he]
 apply List.ext_getElem
 ·rw [iC,<-hL];simp;omega
 ·intro k k1 k2
  rw [iC,<-hL] at k2
  simp only [jG,List.getElem_map,List.getElem_range',Nat.one_mul]
  by_cases c1:k<d
  ·rw [List.getElem_append_left (by simp;omega),List.getElem_append_left (by simp;omega)]
   simp only [List.getElem_take,List.getElem_map,List.getElem_range',Nat.one_mul,wrB]
   rw [if_neg oZ]
  ·by_cases c2:k<d+e
   ·rw [List.getElem_append_left (by simp;omega),List.getElem_append_right (by simp;omega)]
    simp only [List.getElem_take,List.getElem_drop,List.length_take,List.length_map,List.length_range',wrB]
    rw [if_pos oZ,List.getElem?_eq_getElem oZ]
    simp only [Option.getD_some]
    congr 1
    omega
   ·rw [List.getElem_append_right (by simp;omega)]
    simp only [List.getElem_drop,List.getElem_map,List.getElem_range',Nat.one_mul,List.length_append,List.length_take,List.length_drop,List.length_map,List.length_range',wrB]
    rw [if_neg oZ]
    congr 1
    omega
theorem T3 {g m:Nat}{T:TypeId}{b:List UInt8}(h:b.length=m)(hm:m<=4611686018427387904):az [(g,av (ak b) T)] T 1 (.slice (some ⟨g,0,none⟩) m m) m (ak b):=by
 have:=tX (T:=T) (g:=g) (c:=m) (s:=1) (m:=m) (xs:=ak b) (r:=[]) (by rw [ai,h,Nat.mul_one]) (aK _) (Nat.le_refl _) (by simp only [maxLen];omega) (by rw [ai,h];simp)
 rwa [List.append_nil] at this
theorem we {a f g:Nat}{q:Int}{i:Nat}(hi:i=f / 1024)(h1:a<=f)(h2:f<g)(h3:g<=(i+1)*1024)(h4:f=a\/f % 1024=0):cQ a (g - a) q=(cQ a (f - a) q||decide (q=i)):=by
 subst hi
 simp only [cQ]
 rw [<-Bool.decide_or]
 exact decide_eq_decide.2 oZ
theorem yv {a f:Nat}{i:Nat}(hi:i=f / 1024)(h4:f=a\/f % 1024=0):cQ a (f - a) i=false:=by
 subst hi
 simp only [cQ]
 exact decide_eq_false oZ
theorem pY {β:Type}{MA MB:List (Int×β)}{q:Int}{x:β}(hn:((MA++(q,x) :: MB).map (·.1)).Nodup)(p:Int):aH (MA++MB) p=if p=q then none else aH (MA++(q,x) :: MB) p:=by
 rw [List.map_append,List.map_cons,List.nodup_append,List.nodup_cons] at hn
 obtain ⟨n1,⟨n2,n3⟩,n4⟩:=hn
 have key:∀(l:List (Int×β)),(∀e∈l,e.1≠p)->l.find? (fun e=>e.1==p)=none:=fun l h=>by
  rw [List.find?_eq_none];intro e he;simpa using h e he
 by_cases c:p=q
 ·subst c
  rw [if_pos rfl]
  unfold aH
  rw [key _ (fun e he => ?_)]; · rfl
  rcases List.mem_append.1 he with he | he
  ·exact n4 e.1 (List.mem_map_of_mem he) _ (List.mem_cons_self ..)
  ·rintro rfl;exact n2 (List.mem_map_of_mem (f:=(·.1)) he)
 ·rw [if_neg c]
  unfold aH
  rw [List.find?_append,List.find?_append,List.find?_cons_of_neg (by simpa using Ne.symm c)]
section
variable {β:Type}{R:Value->β->Chunk->Prop}
theorem eT.pull {A B:List (Int×Value)}{q:Int}{v:Value}:∀ {M:List (Int×β)} {V:Chunk},eT R (A++(q,v) :: B) M V ->
  ∃MA x MB V1 D V2,M=MA++(q,x) :: MB/\V=V1++(D++V2)/\R v x D/\eT R (A++B) (MA++MB) (V1++V2):=by
 induction A with
 | nil =>
  intro M V h
  cases M with
  | nil=>exact h.elim
  | cons e M =>
   obtain ⟨g,x⟩:=e
   obtain ⟨rfl,D,V',hD,hV,rfl⟩:=h
   exact ⟨[],x,M,[],D,V',rfl,rfl,hD,hV⟩
 | cons a A ih =>
  intro M V h
  obtain ⟨p,u⟩:=a
  cases M with
  | nil=>exact h.elim
  | cons e M =>
   obtain ⟨g,y⟩:=e
   obtain ⟨rfl,D,V',hD,hV,rfl⟩:=h
   obtain ⟨MA,x,MB,V1,E,V2,rfl,rfl,h3,h4⟩:=ih hV
   exact ⟨(p,y) :: MA,x,MB,D++V1,E,V2,rfl,by rw [List.append_assoc],h3,rfl,D,V1++V2,hD,h4,by rw [List.append_assoc]⟩
end
end Go.Sl
namespace Go.Proofs.YtcfioaeamfappaaGreatDoor
open Go.Sl
set_option maxRecDepth 10000
set_option maxHeartbeats 4000000
section
variable (s tk:Nat)(vA:Value)(ra rd txg note:Nat)
theorem GQ (k a:Int)(ad:Option Addr)(m c:Nat)(h:¬(1<=k/\k<=112)\/a<0\/65536<a\/65536 - a<m):Ct 46 [ptr s,.int .i64 k,.int .i64 a,.slice ad m c] [[(s,bS tk vA ra rd txg note)]] fun u Bs=>u = .int .i64 1/\Bs=[[(s,bS tk vA ra rd txg note)]]:=by
 have hh:=jx k
 by_cases hk:1<=k/\k<=112
 ·rw [decide_eq_true hk] at hh
  refine st Tryz.func46 fun w0 => ?_
  refine gc hh ?_
  rintro _ _ ⟨rfl,rfl⟩
  refine gg ?_ ?_ <;> intro h1
  ·refine gz ?_
   exact fin ⟨rfl,rfl⟩ aa
  refine gg ?_ ?_ <;> intro h2
  ·refine gz ?_
   exact fin ⟨rfl,rfl⟩ aa
  have hw:IntKind.i64.wrap (65536 - a)=65536 - a:=IntWalk.i64_in _ oZ
  have h3:65536 - a<m:=by omega
  refine gz ?_
  exact fin ⟨rfl,rfl⟩ aa
 ·rw [decide_eq_false hk] at hh
  refine st Tryz.func46 fun w0 => ?_
  refine gc hh ?_
  rintro _ _ ⟨rfl,rfl⟩
  refine gz ?_
  exact fin ⟨rfl,rfl⟩ aa
end
section
variable (T:TypeId)(fr:Nat×Nat)(p:Nat)(qs:List Nat)(t pool:Nat)(tp:Tp)(pr:Bool)(n:Nat)(ls:List (Option Lv))(no:Nat)(V:Chunk)(hV:jd t pool tp pr n ls no V)(ok:dE tp pr n ls.length)(dx:n<=2048)(R:Rk)(C:Chunk)(hC:br p qs R C)(ho:dI qs R n ls)(hall:∀x∈ls,x≠none)(bW:R.off=false)
variable (s:Nat)(vA:Value)(ra rd txg note:Nat)(LA:List (Int×Value))(CA:Chunk)(hA:Mp ra .i64 LA CA)(all:List (Int×Ob))(VA:Chunk)(hG:eT w9 LA all VA)(bx:∀e∈all,e.2.size<=65536)(hlen:all.length<=112)
include hV ok dx hA hG bx hlen
theorem DO (k:Int)(hk:1<=k/\k<=112)(a m:Nat)(KG:a+m<=65536)(ad:Option Addr)(c:Nat)(hf:nX all k (max (Ob.at all k).size (a+m)) (bD pr ls.length n / aN pr ls.length 1024 / 4 - 10)=false) :
  Ct 46 [ptr s,.int .i64 k,.int .i64 a,.slice ad m c] [[(s,bS t vA ra rd txg note)],V,CA,VA] fun u Bs=>u = .int .i64 3/\Bs=[[(s,bS t vA ra rd txg note)],V,CA,VA]:=by
 have hh:=jx k
 rw [decide_eq_true hk] at hh
 have bE:=rE s t pool tp pr n ls no V hV ok dx vA ra rd txg note LA CA hA all VA hG bx hlen k
 rcases hG.look k with ⟨h1,h2, -⟩ | ⟨v',o,V1,D,V2,h1,h2,rfl,⟨ao,rfl,hO⟩, -, -⟩
 ·have gh:Ob.at all k=bB:=by unfold Ob.at;rw [h2];rfl
  rw [gh] at hf
  have bE:=bE (max bB.size (a+m)) (by simp only [bB];omega)
  rw [hf] at bE
  refine st Tryz.func46 fun w0 => ?_
  refine gc hh ?_
  rintro _ _ ⟨rfl,rfl⟩
  refine uC .i64 ?_;intro r CF hM
  refine ga ?_;intro ao
  refine go ?_
  rw [show max (0:Int) ((a+m:Nat):Int)=((max bB.size (a+m):Nat):Int) by simp only [bB];omega]
  refine gc bE ?_
  rintro _ _ ⟨rfl,rfl⟩
  refine gz ?_
  exact fin ⟨rfl,rfl⟩ aa
 ·have gh:Ob.at all k=o:=by unfold Ob.at;rw [h2];rfl
  rw [gh] at hf
  have Pv:o.size<=65536:=bx _ (aI h2)
  have bE:=bE (max o.size (a+m)) oZ
  rw [hf] at bE
  obtain ⟨je,cP,DP,dP,cI,DI,r,LF,CF,VF,hP,hI,hM,hF,rfl⟩:=hO
  refine st Tryz.func46 fun w0 => ?_
  refine gs ?_
  refine gc hh ?_
  rintro _ _ ⟨rfl,rfl⟩
  refine go ?_
  rw [show max (o.size:Int) ((a+m:Nat):Int)=((max o.size (a+m):Nat):Int) by omega]
  refine gc bE ?_
  rintro _ _ ⟨rfl,rfl⟩
  refine gs ?_
  refine gz ?_
  exact fin ⟨rfl,rfl⟩ aa
end
end Go.Proofs.YtcfioaeamfappaaGreatDoor
namespace Go.Sl
def aW (z:Nat):Nat:=(z+1023) / 1024
def jy (rd:Pt->List UInt8)(o:Ob)(z:Nat)(q:Int):Option (List UInt8):=if q<aW z then (if 0<z % 1024/\q=(z / 1024:Nat) then some ((o.fN rd (z / 1024)).take (z % 1024)) else aH o.fresh q) else none
theorem eT.abr {β:Type}{R:Value->β->Chunk->Prop}{L:List (Int×Value)}{M:List (Int×β)}{V:Chunk}(h:eT R L M V)(q:Int):∃V1 D0 V2,V=V1++(D0++V2)/\∀v x D,R v x D->eT R (gJ L q v) (ec M q x) (V1++(D++V2)):=by
 rcases h.look q with ⟨-, -,h3⟩ | ⟨v,x,V1,D,V2, -, -,h3, -, -,h5⟩
 ·exact ⟨V,[],[],by simp,fun v x D hD=>by rw [List.append_nil];exact h3 v x D hD⟩
 ·exact ⟨V1,D,V2,h3,h5⟩
end Go.Sl
namespace Go.Proofs.YtcfioaeamfappaaGreatDoor
open Go.Sl
set_option maxRecDepth 10000
set_option maxHeartbeats 4000000
theorem ep (O:Chunk)(ad:Option Addr)(m c:Nat)(xs:List Value)(hR:Rd O 9 (.slice ad m c) m xs)(hm:m<=100000):Ct 115 [.slice ad m c] [O] fun u Bs=>∃ba c' D',u = .slice ba m c'/\az D' 85 9 (.slice ba m c') m xs/\Bs=[D',O]:=by
 by_cases h1:1<=m
 ·exact Cn O ad m c xs hR ⟨h1,hm⟩
 ·obtain rfl:m=0:=by omega
  have X6:xs=[]:=List.eq_nil_of_length_eq_zero (by have:=hR.1;omega)
  subst X6
  cases ad with
  | none =>
   refine st Tryz.func115 fun w0 => ?_
   refine gz ?_
   exact fin ⟨none,0,[],rfl,az.nil _ _,rfl⟩ aa
  | some z =>
   refine st Tryz.func115 fun w0 => ?_
   refine gm ?_;intro b
   have hB:az [(b,av [] 85)] 85 9 (.slice (some ⟨b,0,none⟩) 0 0) 0 []:=⟨rfl,by simp,.inr ⟨b,0,[],rfl,rfl,by omega,by simp [maxLen],rfl⟩⟩
   refine gp ?_;intro ba c' C' bA
   rw [Nat.zero_add,List.nil_append] at bA
   refine gz ?_
   exact fin ⟨ba,c',C',by rw [Nat.zero_add],bA,rfl⟩ aa
section
variable (T:TypeId)(fr:Nat×Nat)(p:Nat)(qs:List Nat)(t pool:Nat)(tp:Tp)(pr:Bool)(n:Nat)(ls:List (Option Lv))(no:Nat)(V:Chunk)(hV:jd t pool tp pr n ls no V)(ok:dE tp pr n ls.length)(dx:n<=2048)(R:Rk)(C:Chunk)(hC:br p qs R C)(ho:dI qs R n ls)(hall:∀x∈ls,x≠none)(bW:R.off=false)
variable (s:Nat)(vA:Value)(ra rd txg note:Nat)(LA:List (Int×Value))(CA:Chunk)(hA:Mp ra .i64 LA CA)(all:List (Int×Ob))(VA:Chunk)(hG:eT w9 LA all VA)(bx:∀e∈all,e.2.size<=65536)(hlen:all.length<=112)
theorem GR (k z:Int)(h:z<0\/65536<z):Ct 48 [ptr s,.int .i64 k,.int .i64 z] [[(s,bS t vA ra rd txg note)]] fun u Bs=>u = .int .i64 1/\Bs=[[(s,bS t vA ra rd txg note)]]:=by
 refine st Tryz.func48 fun w0 => ?_
 rcases (show z<0\/(¬z<0/\65536<z) by omega) with h1 | ⟨h1,h2⟩
 ·refine gz ?_
  exact fin ⟨rfl,rfl⟩ aa
 ·refine gz ?_
  exact fin ⟨rfl,rfl⟩ aa
include hA hG
theorem KL (k:Int)(z:Nat)(hz:z<=65536)(h:(dr all k).2≠0):Ct 48 [ptr s,.int .i64 k,.int .i64 z] [[(s,bS t vA ra rd txg note)],CA,VA] fun u Bs=>u = .int .i64 (dr all k).2/\Bs=[[(s,bS t vA ra rd txg note)],CA,VA]:=by
 by_cases hk:1<=k/\k<=112
 ·rcases hG.look k with ⟨h1,h2, -⟩ | ⟨v',o,V1,D,V2,h1,h2, -⟩
  ·rw [fc hk h2]
   refine st Tryz.func48 fun w0 => ?_
   refine gc (nr s t vA ra rd txg note LA CA hA k hk h1) ?_
   rintro _ _ ⟨rfl,rfl⟩
   refine gz ?_
   exact fin ⟨rfl,rfl⟩ aa
  ·rw [eL hk h2] at h;exact absurd rfl h
 ·rw [dR hk]
  refine st Tryz.func48 fun w0 => ?_
  refine gc (kM s t vA ra rd txg note k hk) ?_
  rintro _ _ ⟨rfl,rfl⟩
  refine gz ?_
  exact fin ⟨rfl,rfl⟩ aa
include hV ok dx bx hlen
theorem DQ (k:Int)(hk:1<=k/\k<=112)(z:Nat)(hz:z<=65536)(o:Ob)(hl:aH all k=some o)(hf:nX all k z (bD pr ls.length n / aN pr ls.length 1024 / 4 - 10)=false):Ct 48 [ptr s,.int .i64 k,.int .i64 z] [[(s,bS t vA ra rd txg note)],V,CA,VA] fun u Bs=>u = .int .i64 3/\Bs=[[(s,bS t vA ra rd txg note)],V,CA,VA]:=by
 have bE:=rE s t pool tp pr n ls no V hV ok dx vA ra rd txg note LA CA hA all VA hG bx hlen k z hz
 rw [hf] at bE
 rcases hG.look k with ⟨-,h2, -⟩ | ⟨v',o',V1,D,V2,h1,h2,IM,⟨ao,rfl,hO⟩, -, -⟩
 ·rw [hl] at h2;cases h2
 ·refine st Tryz.func48 fun w0 => ?_
  refine gc (lF s t vA ra rd txg note LA CA hA k hk ao h1) ?_
  rintro _ _ ⟨rfl,rfl⟩
  refine gc bE ?_
  rintro _ _ ⟨rfl,rfl⟩
  refine gz ?_
  exact fin ⟨rfl,rfl⟩ aa
include hC ho hall bW
theorem Pw (k:Int)(hk:1<=k/\k<=112)(z:Nat)(hz:z<=65536)(o:Ob)(hl:aH all k=some o)(xh:∀e∈o.fresh,0<=e.1/\e.1<=64)(hf:nX all k z (bD pr ls.length n / aN pr ls.length 1024 / 4 - 10)=true)
  (du:Pt->List UInt8) (Pe:∀x∈o.ay,x≠ah->KC R ls pr n x (du x)) (oQ:∀e∈o.fresh,e.2.length<=1024) (mj:o.ay.length<=64):Ct 48 [ptr s,.int .i64 k,.int .i64 z] [[(s,bS t vA ra rd txg note)],gK T fr,C,V,CA,VA] fun u Bs=>u = .int .i64 0/\∃V' cd,(∀q,aH cd q=if z<o.size then jy du o z q else aH o.fresh q) /\
   eT w9 LA (ec all k { o with size:=z,ay:=if z<o.size then o.ay.take (aW z) else o.ay,fresh:=cd,clean:=false }) V'/\Bs=[[(s,bS t vA ra rd txg note)],gK T fr,C,V,CA,V']:=by
 have bE:=rE s t pool tp pr n ls no V hV ok dx vA ra rd txg note LA CA hA all VA hG bx hlen k z hz
 rw [hf] at bE
 rcases hG.look k with ⟨-,h2, -⟩ | ⟨v',o',V1,D,V2,h1,h2,rfl,⟨ao,rfl,Bh⟩,bL, -⟩
 ·rw [hl] at h2;cases h2
 ·obtain rfl:o=o':=by rw [hl] at h2;exact Option.some.inj h2
  have Pv:o.size<=65536:=bx _ (aI hl)
  have ef:=fun i hi=>pX T fr p qs t pool tp pr n ls no V hV ok R C hC ho hall bW s vA ra rd txg note ao o Pv D Bh i hi du (fun x hx=>Pe x (List.mem_of_getElem? hx)) oQ
  obtain ⟨je,cP,DP,dP,cI,DX,r,LF,CF,VF,hP,Ak,hM,hF,rfl⟩:=Bh
  have Ws:=hP.rd
  refine st Tryz.func48 fun w0 => ?_
  refine gs ?_
  refine gc (lF s t vA ra rd txg note LA CA hA k hk ao h1) ?_
  rintro _ _ ⟨rfl,rfl⟩
  refine gc bE ?_
  rintro _ _ ⟨rfl,rfl⟩
  refine gs ?_
  refine gi ?_ ?_ <;> intro Po
  ·have Px:z<o.size:=by omega
   rw [if_pos Px]
   obtain ⟨kp,abt⟩:∃kp,kp=min (aW z) o.ay.length:=⟨_,rfl⟩
   have lV:(o.ay.take (aW z)).length=kp:=by rw [List.length_take,abt]
   have jz:aW z<=64:=by unfold aW;omega
   have nZ:((aO o.ay).drop (0*9)).take ((kp - 0)*9)=aO (o.ay.take (aW z)):=by
    rw [Nat.zero_mul,List.drop_zero,Nat.sub_zero]
    show (List.flatMap _ _).take (kp*9)=List.flatMap _ _
    rw [kB Pt.aj,abt]
    congr 1
    refine List.take_eq_take_iff.2 ?_
    omega
   have HH:kp - 0=kp:=rfl
   have afM:=hP.dL
   refine gi ?_ ?_ <;> intro nT
   ·obtain ⟨fq,hfq⟩:∃l,l=(o.fN du (z / 1024)).take (z % 1024):=⟨_,rfl⟩
    have ef:=ef (z / 1024) oZ
    have KK:aT o.size (z / 1024)=min 1024 (o.size - z / 1024*1024):=rfl
    obtain ⟨L,hL⟩:∃L,L=aT o.size (z / 1024):=⟨_,rfl⟩
    have On:(o.fN du (z / 1024)).length=L:=by rw [Ob.fN,dQ,hL]
    rw [<-hL] at ef KK
    have ID:z % 1024<=L:=by omega
    refine gc ef ?_
    rintro _ _ ⟨g16,rfl,rfl⟩
    have adR:lE (.slice (some ⟨g16,0,none⟩) (z % 1024) (L - 0)) fq [(g16,av (ak (o.fN du (z / 1024))) 5)]:=by
     unfold lE
     have jo:fq.length=z % 1024:=by rw [hfq,List.length_take,On];omega
     have h:=tX (T:=5) (g:=g16) (c:=L - 0) (s:=1) (m:=z % 1024) (xs:=ak fq) (r:=ak ((o.fN du (z / 1024)).drop (z % 1024))) (by rw [ai,jo,Nat.mul_one]) (aK _) oZ (by simp only [maxLen];omega) (by rw [ai,ai,jo,List.length_drop,On];omega)
     rw [<-aE,hfq,List.take_append_drop,<-hfq] at h
     rw [jo];exact h
    obtain ⟨W1,D0,W2,hVF,lO⟩:=hF.abr ((z / 1024:Nat):Int)
    subst hVF
    have hF1:=lO _ _ _ adR
    have hqA:∀q:Int,aH (ec o.fresh ((z / 1024:Nat):Int) fq) q=if 0<z % 1024/\q=(z / 1024:Nat) then some ((o.fN du (z / 1024)).take (z % 1024)) else aH o.fresh q:=fun q=>by
     rw [ic]
     by_cases c:((z / 1024:Nat):Int)=q
     ·rw [if_pos c,if_pos ⟨by omega,c.symm⟩,hfq]
     ·rw [if_neg c,if_neg (fun h=>c h.2.symm)]
    refine gs ?_
    refine gv ?_
    refine gu ?_;intro CF1 hM1
    have IN:((z+1024 - 1) / 1024:Nat)=aW z:=by unfold aW;omega
    refine gd [0,4,8,12,16,20,24,28,32,36,40,44,48,53,56,60,67] ?_
    refine go ?_
    rw [IN,show min ((aW z:Nat):Int) (o.ay.length:Int)=(kp:Int) by omega]
    refine gw ?_;intro ad2 kr
    refine gc (ep _ ad2 kp _ _ kr oZ) ?_
    rintro _ _ ⟨fJ,c3,DP3,rfl,hP3,rfl⟩
    refine gr ?_
    intro it DI hI
    refine gl [2,7,13,97] (fun (_:List (Int×Value)×List (Int×List UInt8)×Chunk×Chunk×List (Int×Value)×Chunk)=>[]) (fun (_,_,CF,VF,_,DI)=>[CF,VF,DI]) (fun (DR,cd,vU,Am,rest,DI)=>xZ r it .i64 DR rest vU DI/\eT lE DR cd Am/\∀q,aH cd q=if (aW z:Int)<=q/\q∉rest.map (·.1) then none else aH (ec o.fresh ((z / 1024:Nat):Int) fq) q) (fun (_,_,_,_,rest,_)=>rest.length) ((gJ LF ((z / 1024:Nat):Int) (.slice (some ⟨g16,0,none⟩) (z % 1024) (L - 0))),(ec o.fresh ((z / 1024:Nat):Int) fq),CF1,(W1++([(g16,av (ak (o.fN du (z / 1024))) 5)]++W2)),(gJ LF ((z / 1024:Nat):Int) (.slice (some ⟨g16,0,none⟩) (z % 1024) (L - 0))),DI) ⟨hI,hF1,fun q=>by
     by_cases c:(aW z:Int)<=q/\q∉(gJ LF ((z / 1024:Nat):Int) (.slice (some ⟨g16,0,none⟩) (z % 1024) (L - 0))).map (·.1)
     ·rw [if_pos c]
      cases hc:aH (ec o.fresh ((z / 1024:Nat):Int) fq) q with
      | none=>rfl
      | some x=>exact absurd (by rw [<-hF1.keys];exact List.mem_map_of_mem (f:=(·.1)) (aI hc)) c.2
     ·rw [if_neg c]⟩ ?_
    clear hI ef bE
    rintro ⟨DR,cd,vU,Am,rest,DI⟩ ⟨hI,KM,mZ⟩
    refine Nl ?_ ?_
    ·rintro rfl
     have nE:∀q,aH cd q=if z<o.size then jy du o z q else aH o.fresh q:=fun q=>by
      rw [if_pos Px,mZ,jy]
      by_cases c:q<(aW z:Int)
      ·rw [if_pos c,if_neg oZ];exact hqA q
      ·rw [if_neg c,if_pos ⟨by omega,by simp⟩]
     refine gz ?_
     exact fin ⟨rfl,_,cd,nE,bL { o with size:=z,ay:=o.ay.take (aW z),fresh:=cd,clean:=false } ([(ao,xu o.used z o.root (.slice fJ kp c3) (.slice dP o.index.length cI) r false)]++(DP3++(DX++(vU++Am)))) ⟨ao,rfl,fJ,c3,DP3,_,_,DX,r,DR,vU,Am,by rw [lV];exact hP3,Ak,hI.mp,KM,by rw [lV]⟩,rfl⟩ aa
    ·rintro X q v Y xx rfl gM qB hE
     have ek:=hI.nodup.1
     have hLn:=hI.mp.nodup
     have L7:q∉(X++Y).map (·.1):=by
      rw [List.map_append,List.map_cons,List.nodup_append,List.nodup_cons] at ek
      rw [List.map_append,List.mem_append,not_or]
      exact ⟨fun h=>ek.2.2 q h q (List.mem_cons_self ..) rfl,ek.2.1.1⟩
     have ik:(X++Y).length<(X++(q,v) :: Y).length:=by simp only [List.length_append,List.length_cons];omega
     have F0:∀x:Int,x∈(X++(q,v) :: Y).map (·.1)↔x=q\/x∈(X++Y).map (·.1):=fun x=>by
      simp only [List.map_append,List.map_cons,List.mem_append,List.mem_cons]
      constructor
      ·rintro (h | h | h)
       ·exact .inr (.inl h)
       ·exact .inl h
       ·exact .inr (.inr h)
      ·rintro (h | h | h)
       ·exact .inr (.inl h)
       ·exact .inl h
       ·exact .inr (.inr h)
     refine Nn ?_
     refine gi ?_ ?_ <;> intro xN
     ·obtain ⟨x,U1,D9,U2,hx,rfl,Fl,Py⟩:=KM.cut hLn gM
      have abm:(jP DR q).isSome=true:=by rw [gM];rfl
      have oM:ir (X++Y) q=X++Y:=vN L7
      refine gs ?_
      refine gx ?_
      intro Pz IC
      rw [oM] at IC
      refine gn ?_
      refine ⟨(_,_,Pz,U1++U2,X++Y,xx),⟨IC,Py,fun x => ?_⟩,ik,aq,_,aa⟩
      rw [Af,mZ]
      by_cases c:q=x
      ·subst c;rw [if_pos rfl,if_pos ⟨xN,L7⟩]
      ·rw [if_neg c]
       by_cases c2:(aW z:Int)<=x/\x∉(X++Y).map (·.1)
       ·rw [if_pos c2,if_pos ⟨c2.1,fun h=>((F0 x).1 h).elim (fun e=>c e.symm) c2.2⟩]
       ·rw [if_neg c2,if_neg (fun h=>c2 ⟨h.1,fun hx=>h.2 ((F0 x).2 (.inr hx))⟩)]
     ·refine gn ?_
      refine ⟨(DR,cd,vU,Am,X++Y,xx),⟨qB,KM,fun x => ?_⟩,ik,aq,_,aa⟩
      rw [mZ]
      by_cases c2:(aW z:Int)<=x/\x∉(X++Y).map (·.1)
      ·rw [if_pos c2,if_pos ⟨c2.1,fun h=>((F0 x).1 h).elim (fun e=>by rw [e] at c2;exact xN c2.1) c2.2⟩]
      ·rw [if_neg c2,if_neg (fun h=>c2 ⟨h.1,fun hx=>h.2 ((F0 x).2 (.inr hx))⟩)]
   ·have hr0:¬0<z % 1024:=by omega
    have hqB:∀q:Int,aH o.fresh q=if 0<z % 1024/\q=(z / 1024:Nat) then some ((o.fN du (z / 1024)).take (z % 1024)) else aH o.fresh q:=fun q=>by rw [if_neg (fun h=>hr0 h.1)]
    have IN:((z+1024 - 1) / 1024:Nat)=aW z:=by unfold aW;omega
    refine gd [0,4,8,12,16,20,24,28,32,36,40,44,48,53,56,60,67] ?_
    refine go ?_
    rw [IN,show min ((aW z:Nat):Int) (o.ay.length:Int)=(kp:Int) by omega]
    refine gw ?_;intro ad2 kr
    refine gc (ep _ ad2 kp _ _ kr oZ) ?_
    rintro _ _ ⟨fJ,c3,DP3,rfl,hP3,rfl⟩
    refine gr ?_
    intro it DI hI
    refine gl [2,7,13,97] (fun (_:List (Int×Value)×List (Int×List UInt8)×Chunk×Chunk×List (Int×Value)×Chunk)=>[]) (fun (_,_,CF,VF,_,DI)=>[CF,VF,DI]) (fun (DR,cd,vU,Am,rest,DI)=>xZ r it .i64 DR rest vU DI/\eT lE DR cd Am/\∀q,aH cd q=if (aW z:Int)<=q/\q∉rest.map (·.1) then none else aH o.fresh q) (fun (_,_,_,_,rest,_)=>rest.length) (LF,o.fresh,CF,VF,LF,DI) ⟨hI,hF,fun q=>by
     by_cases c:(aW z:Int)<=q/\q∉LF.map (·.1)
     ·rw [if_pos c]
      cases hc:aH o.fresh q with
      | none=>rfl
      | some x=>exact absurd (by rw [<-(show eT lE LF o.fresh VF from hF).keys];exact List.mem_map_of_mem (f:=(·.1)) (aI hc)) c.2
     ·rw [if_neg c]⟩ ?_
    clear hI ef bE
    rintro ⟨DR,cd,vU,Am,rest,DI⟩ ⟨hI,KM,mZ⟩
    refine Nl ?_ ?_
    ·rintro rfl
     have nE:∀q,aH cd q=if z<o.size then jy du o z q else aH o.fresh q:=fun q=>by
      rw [if_pos Px,mZ,jy]
      by_cases c:q<(aW z:Int)
      ·rw [if_pos c,if_neg oZ];exact hqB q
      ·rw [if_neg c,if_pos ⟨by omega,by simp⟩]
     refine gz ?_
     exact fin ⟨rfl,_,cd,nE,bL { o with size:=z,ay:=o.ay.take (aW z),fresh:=cd,clean:=false } ([(ao,xu o.used z o.root (.slice fJ kp c3) (.slice dP o.index.length cI) r false)]++(DP3++(DX++(vU++Am)))) ⟨ao,rfl,fJ,c3,DP3,_,_,DX,r,DR,vU,Am,by rw [lV];exact hP3,Ak,hI.mp,KM,by rw [lV]⟩,rfl⟩ aa
    ·rintro X q v Y xx rfl gM qB hE
     have ek:=hI.nodup.1
     have hLn:=hI.mp.nodup
     have L7:q∉(X++Y).map (·.1):=by
      rw [List.map_append,List.map_cons,List.nodup_append,List.nodup_cons] at ek
      rw [List.map_append,List.mem_append,not_or]
      exact ⟨fun h=>ek.2.2 q h q (List.mem_cons_self ..) rfl,ek.2.1.1⟩
     have ik:(X++Y).length<(X++(q,v) :: Y).length:=by simp only [List.length_append,List.length_cons];omega
     have F0:∀x:Int,x∈(X++(q,v) :: Y).map (·.1)↔x=q\/x∈(X++Y).map (·.1):=fun x=>by
      simp only [List.map_append,List.map_cons,List.mem_append,List.mem_cons]
      constructor
      ·rintro (h | h | h)
       ·exact .inr (.inl h)
       ·exact .inl h
       ·exact .inr (.inr h)
      ·rintro (h | h | h)
       ·exact .inr (.inl h)
       ·exact .inl h
       ·exact .inr (.inr h)
     refine Nn ?_
     refine gi ?_ ?_ <;> intro xN
     ·obtain ⟨x,U1,D9,U2,hx,rfl,Fl,Py⟩:=KM.cut hLn gM
      have abm:(jP DR q).isSome=true:=by rw [gM];rfl
      have oM:ir (X++Y) q=X++Y:=vN L7
      refine gs ?_
      refine gx ?_
      intro Pz IC
      rw [oM] at IC
      refine gn ?_
      refine ⟨(_,_,Pz,U1++U2,X++Y,xx),⟨IC,Py,fun x => ?_⟩,ik,aq,_,aa⟩
      rw [Af,mZ]
      by_cases c:q=x
      ·subst c;rw [if_pos rfl,if_pos ⟨xN,L7⟩]
      ·rw [if_neg c]
       by_cases c2:(aW z:Int)<=x/\x∉(X++Y).map (·.1)
       ·rw [if_pos c2,if_pos ⟨c2.1,fun h=>((F0 x).1 h).elim (fun e=>c e.symm) c2.2⟩]
       ·rw [if_neg c2,if_neg (fun h=>c2 ⟨h.1,fun hx=>h.2 ((F0 x).2 (.inr hx))⟩)]
     ·refine gn ?_
      refine ⟨(DR,cd,vU,Am,X++Y,xx),⟨qB,KM,fun x => ?_⟩,ik,aq,_,aa⟩
      rw [mZ]
      by_cases c2:(aW z:Int)<=x/\x∉(X++Y).map (·.1)
      ·rw [if_pos c2,if_pos ⟨c2.1,fun h=>((F0 x).1 h).elim (fun e=>by rw [e] at c2;exact xN c2.1) c2.2⟩]
      ·rw [if_neg c2,if_neg (fun h=>c2 ⟨h.1,fun hx=>h.2 ((F0 x).2 (.inr hx))⟩)]
  ·rw [if_neg oZ]
   have hfq:∀q,aH o.fresh q=if z<o.size then jy du o z q else aH o.fresh q:=fun q=>(if_neg oZ).symm
   refine gz ?_
   exact fin ⟨rfl,_,o.fresh,hfq,bL { o with size:=z,clean:=false } ([(ao,xu o.used z o.root (.slice je o.ay.length cP) (.slice dP o.index.length cI) r false)]++(DP++(DX++(CF++VF)))) ⟨ao,rfl,_,_,DP,_,_,DX,r,LF,CF,VF,hP,Ak,hM,hF,rfl⟩,rfl⟩ aa
end
end Go.Proofs.YtcfioaeamfappaaGreatDoor
namespace Go.Sl
theorem WO.abu {X:Cx}{f:Fx}{ops:List Oper}{k:Kt}{Ms:List Chunk}{r:aA}{e:Env}{Ls Rs:List Chunk}{C:Chunk}(hs:gH Ls [C] Rs)(g:WO X f ops k Ms r e (C :: Rs)):WO X f ops k Ms r e Ls:=.mk fun a w E S=>g.ap a w E (S.r8 hs)
end Go.Sl
namespace Go.Proofs.YtcfioaeamfappaaGreatDoor
open Go.Sl
set_option maxRecDepth 10000
set_option maxHeartbeats 4000000
section
variable (t pool:Nat)(tp:Tp)(pr:Bool)(n:Nat)(ls:List (Option Lv))(no:Nat)(V:Chunk)(hV:jd t pool tp pr n ls no V)(ok:dE tp pr n ls.length)(dx:n<=2048)
variable (s:Nat)(vA:Value)(ra rd txg note:Nat)(LA:List (Int×Value))(CA:Chunk)(hA:Mp ra .i64 LA CA)(all:List (Int×Ob))(VA:Chunk)(hG:eT w9 LA all VA)(bx:∀e∈all,e.2.size<=65536)(hlen:all.length<=112)
theorem KN (k z:Int)(h:¬(1<=z/\z<=112)):Ct 50 [ptr s,.int .i64 k,.int .i64 z] [[(s,bS t vA ra rd txg note)]] fun u Bs=>u = .int .i64 1/\Bs=[[(s,bS t vA ra rd txg note)]]:=by
 have hh:=jx z
 rw [decide_eq_false h] at hh
 refine st Tryz.func50 fun w0 => ?_
 refine gc hh ?_
 rintro _ _ ⟨rfl,rfl⟩
 refine gz ?_
 exact fin ⟨rfl,rfl⟩ aa
include hA hG
theorem PA (k z:Int)(hz:1<=z/\z<=112)(h:(dr all k).2≠0):Ct 50 [ptr s,.int .i64 k,.int .i64 z] [[(s,bS t vA ra rd txg note)],CA,VA] fun u Bs=>u = .int .i64 (dr all k).2/\Bs=[[(s,bS t vA ra rd txg note)],CA,VA]:=by
 have hh:=jx z
 rw [decide_eq_true hz] at hh
 by_cases hk:1<=k/\k<=112
 ·rcases hG.look k with ⟨h1,h2, -⟩ | ⟨v',o,V1,D,V2,h1,h2, -⟩
  ·rw [fc hk h2]
   refine st Tryz.func50 fun w0 => ?_
   refine gc hh ?_
   rintro _ _ ⟨rfl,rfl⟩
   refine gc (nr s t vA ra rd txg note LA CA hA k hk h1) ?_
   rintro _ _ ⟨rfl,rfl⟩
   refine gz ?_
   exact fin ⟨rfl,rfl⟩ aa
  ·rw [eL hk h2] at h;exact absurd rfl h
 ·rw [dR hk]
  refine st Tryz.func50 fun w0 => ?_
  refine gc hh ?_
  rintro _ _ ⟨rfl,rfl⟩
  refine gc (kM s t vA ra rd txg note k hk) ?_
  rintro _ _ ⟨rfl,rfl⟩
  refine gz ?_
  exact fin ⟨rfl,rfl⟩ aa
theorem GS (k:Int)(hk:1<=k/\k<=112)(o:Ob)(hl:aH all k=some o):Ct 50 [ptr s,.int .i64 k,.int .i64 k] [[(s,bS t vA ra rd txg note)],CA,VA] fun u Bs=>u = .int .i64 0/\Bs=[[(s,bS t vA ra rd txg note)],CA,VA]:=by
 have hh:=jx k
 rw [decide_eq_true hk] at hh
 rcases hG.look k with ⟨-,h2, -⟩ | ⟨v',o',V1,D,V2,h1,h2,IM,⟨ao,rfl,hO⟩, -, -⟩
 ·rw [hl] at h2;cases h2
 ·refine st Tryz.func50 fun w0 => ?_
  refine gc hh ?_
  rintro _ _ ⟨rfl,rfl⟩
  refine gc (lF s t vA ra rd txg note LA CA hA k hk ao h1) ?_
  rintro _ _ ⟨rfl,rfl⟩
  refine gz ?_
  exact fin ⟨rfl,rfl⟩ aa
include hV ok dx bx hlen
theorem GU (k z:Int)(hk:1<=k/\k<=112)(hz:1<=z/\z<=112)(jz:k≠z)(o:Ob)(hl:aH all k=some o)(hf:nX all z o.size (bD pr ls.length n / aN pr ls.length 1024 / 4 - 10)=false):Ct 50 [ptr s,.int .i64 k,.int .i64 z] [[(s,bS t vA ra rd txg note)],V,CA,VA] fun u Bs=>u = .int .i64 3/\Bs=[[(s,bS t vA ra rd txg note)],V,CA,VA]:=by
 have hh:=jx z
 rw [decide_eq_true hz] at hh
 have bE:=rE s t pool tp pr n ls no V hV ok dx vA ra rd txg note LA CA hA all VA hG bx hlen z o.size (bx _ (aI hl))
 rw [hf] at bE
 rcases hG.look k with ⟨-,h2, -⟩ | ⟨v',o',V1,D,V2,h1,h2,rfl,⟨ao,rfl,hO⟩, -, -⟩
 ·rw [hl] at h2;cases h2
 ·obtain rfl:o=o':=by rw [hl] at h2;exact Option.some.inj h2
  obtain ⟨je,cP,DP,dP,cI,DX,r,LF,CF,VF,hP,Ak,hM,hF,rfl⟩:=hO
  refine st Tryz.func50 fun w0 => ?_
  refine gs ?_
  refine gc hh ?_
  rintro _ _ ⟨rfl,rfl⟩
  refine gc (lF s t vA ra rd txg note LA CA hA k hk ao h1) ?_
  rintro _ _ ⟨rfl,rfl⟩
  refine gc bE ?_
  rintro _ _ ⟨rfl,rfl⟩
  refine gs ?_
  refine gz ?_
  exact fin ⟨rfl,rfl⟩ aa
theorem T4 (k z:Int)(hk:1<=k/\k<=112)(hz:1<=z/\z<=112)(jz:k≠z)(o:Ob)(hl:aH all k=some o)(hf:nX all z o.size (bD pr ls.length n / aN pr ls.length 1024 / 4 - 10)=true)(oQ:∀e∈o.fresh,1<=e.2.length/\e.2.length<=1024)(mj:o.ay.length<=64/\o.index.length<=64) :
  Ct 50 [ptr s,.int .i64 k,.int .i64 z] [[(s,bS t vA ra rd txg note)],V,CA,VA] fun u Bs=>u = .int .i64 0/\∃L' C' V' cd,(∀q,aH cd q=aH o.fresh q)/\Mp ra .i64 L' C'/\eT w9 L' (ec all z { o with fresh:=cd }) V'/\Bs=[[(s,bS t vA ra rd txg note)],V,C',V']:=by
 have hh:=jx z
 rw [decide_eq_true hz] at hh
 have bE:=rE s t pool tp pr n ls no V hV ok dx vA ra rd txg note LA CA hA all VA hG bx hlen z o.size (bx _ (aI hl))
 rw [hf] at bE
 obtain ⟨Z1,Z0,Z2,hVZ,abv⟩:=hG.abr z
 rcases hG.look k with ⟨-,h2, -⟩ | ⟨v',o',V1,D,V2,h1,h2,IM,⟨ao,rfl,hO⟩, -, -⟩
 ·rw [hl] at h2;cases h2
 ·obtain rfl:o=o':=by rw [hl] at h2;exact Option.some.inj h2
  obtain ⟨je,cP,DP,dP,cI,DX,r,LF,CF,VF,hP,Ak,hM,hF,rfl⟩:=hO
  have Ws:=hP.rd
  have xp:=Ak.rd
  have Fk:=hF.keys
  refine st Tryz.func50 fun w0 => ?_
  refine gc hh ?_
  rintro _ _ ⟨rfl,rfl⟩
  refine gc (lF s t vA ra rd txg note LA CA hA k hk ao h1) ?_
  rintro _ _ ⟨rfl,rfl⟩
  rw [IM] at bE ⊢
  refine gs ?_
  refine gc bE ?_
  rintro _ _ ⟨rfl,rfl⟩
  refine gs ?_
  refine gdo (aA.cons (0,0) (aA.cons (1,0) (aA.cons (2,0) (aA.cons (3,0) (aA.cons (4,0) (aA.cons (5,0) (aA.cons (6,0) (aA.cons (7,0) (aA.cons (9,0) (aA.cons (10,0) (aA.cons (11,0) (aA.cons (12,0) (aA.cons (15,0) (aA.cons (16,0) (aA.cons (17,0) (aA.cons (18,0) (aA.fork 8 (aA.fork 13 (aA.yP [(14,1),(19,0),(20,3),(21,2)]) 14 (aA.yP [(13,1),(19,0),(20,3),(21,2)])) 14 (aA.yP [(8,1),(13,1),(19,0),(20,3),(21,2)])))))))))))))))))) ?_
  refine gk ?_ ?_
  case' refine_2 =>
   refine uC .i64 ?_;intro r9 C9 h9
   refine gc (ep DP je o.ay.length cP _ Ws oZ) ?_
   rintro _ _ ⟨iI,c1,D1,rfl,A7,rfl⟩
   refine gc (ep DX dP o.index.length cI _ xp oZ) ?_
   rintro _ _ ⟨ad2,c2,D2,rfl,BR,rfl⟩
  case' refine_1 =>
   refine gc (ep DP je o.ay.length cP _ Ws oZ) ?_
   rintro _ _ ⟨iI,c1,D1,rfl,A7,rfl⟩
   refine gk ?_ ?_
  case' refine_1.refine_1 =>
   refine gc (ep DX dP o.index.length cI _ xp oZ) ?_
   rintro _ _ ⟨ad2,c2,D2,rfl,BR,rfl⟩
   refine uC .i64 ?_;intro r9 C9 h9
  case' refine_1.refine_2 =>
   refine uC .i64 ?_;intro r9 C9 h9
   refine gc (ep DX dP o.index.length cI _ xp oZ) ?_
   rintro _ _ ⟨ad2,c2,D2,rfl,BR,rfl⟩
  all_goals
   clear bE
   refine ga ?_;intro g9
   refine gr ?_
   intro it DI hI
   refine gl [0,1,2,7,9,68] (fun (_:List (Int×Value)×List (Int×List UInt8)×Chunk×Chunk×List (Int×Value)×Chunk)=>[]) (fun (_,_,C9,V9,_,DI)=>[C9,V9,DI,V1++([(ao,xu o.used o.size o.root (.slice je o.ay.length cP) (.slice dP o.index.length cI) r o.clean)]++(DP++(DX++(CF++VF)))++V2)]) (fun (L9,M9,C9,V9,rest,DI)=>Mp r9 .i64 L9 C9/\eT lE L9 M9 V9/\xZ r it .i64 LF rest CF DI/\∀q,aH M9 q=if q∈rest.map (·.1) then none else aH o.fresh q) (fun (_,_,_,_,rest,_)=>rest.length) ([],[],C9,[],LF,DI) ⟨h9,rfl,hI,fun q=>by
    by_cases c:q∈LF.map (·.1)
    ·rw [if_pos c];rfl
    ·rw [if_neg c]
     cases hc:aH o.fresh q with
     | none=>rfl
     | some x=>exact absurd (by rw [<-Fk];exact List.mem_map_of_mem (f:=(·.1)) (aI hc)) c⟩ ?_
   clear h9 hI
   rintro ⟨L9,M9,C9,V9,rest,DI⟩ ⟨h9,hG9,hI,hq9⟩
   refine gs ?_
   refine Nl ?_ ?_
   ·rintro rfl
    have nE:∀q,aH M9 q=aH o.fresh q:=fun q=>by rw [hq9,if_neg (by simp)]
    refine go ?_
    refine WO.abu (C:=V1++([(ao,xu o.used o.size o.root (.slice je o.ay.length cP) (.slice dP o.index.length cI) r o.clean)]++(DP++(DX++(CF++VF)))++V2)) aa ?_
    rw [<-IM,hVZ]
    refine gs ?_
    refine gu ?_;intro CA' dX
    refine gz ?_
    exact fin ⟨rfl,_,CA',_,M9,nE,dX,abv (ptr g9) { o with fresh:=M9 } ([(g9,xu o.used o.size o.root (.slice iI o.ay.length c1) (.slice ad2 o.index.length c2) r9 o.clean)]++(D1++(D2++(C9++V9)))) ⟨g9,rfl,iI,c1,D1,ad2,c2,D2,r9,L9,C9,V9,A7,BR,h9,hG9,rfl⟩,rfl⟩ aa
   ·rintro X q v Y xx rfl gM qB hE
    have ek:=hI.nodup.1
    have L7:q∉(X++Y).map (·.1):=by
     rw [List.map_append,List.map_cons,List.nodup_append,List.nodup_cons] at ek
     rw [List.map_append,List.mem_append,not_or]
     exact ⟨fun h=>ek.2.2 q h q (List.mem_cons_self ..) rfl,ek.2.1.1⟩
    have ik:(X++Y).length<(X++(q,v) :: Y).length:=by simp only [List.length_append,List.length_cons];omega
    rcases hF.look q with ⟨e1, -⟩ | ⟨v9,b9,U1,D9,U2,e1,e2,rfl,Fl, -, -⟩
    ·rw [gM] at e1;cases e1
    ·obtain rfl:v=v9:=by rw [gM] at e1;exact Option.some.inj e1
     have hb9:1<=b9.length/\b9.length<=1024:=oQ _ (aI e2)
     have GV:az D9 5 1 v b9.length (ak b9):=Fl
     obtain ⟨Md,c9,rfl⟩:=GV.slice
     rcases hG9.look q with ⟨e3,e4,k3⟩ | ⟨_,_,_,_,_,_,e4, -⟩
     ·refine Nn ?_
      refine gs ?_
      refine gd [0,4,8,12,16,20,25,31] ?_
      refine gc (Cl D9 Md b9.length c9 _ GV.rd oZ) ?_
      rintro _ _ ⟨afN,c10,D10,rfl,adV,rfl⟩
      refine gu ?_;intro C92 h92
      refine gn ?_
      refine ⟨(_,_,C92,V9++D10,X++Y,xx),⟨h92,k3 _ b9 D10 adV,qB,fun x => ?_⟩,ik,aq,_,aa⟩
      rw [ic,hq9]
      by_cases c:q=x
      ·subst c;rw [if_pos rfl,if_neg L7,e2]
      ·rw [if_neg c]
       have:x∈(X++(q,Value.slice Md b9.length c9) :: Y).map (·.1)↔x∈(X++Y).map (·.1):=by
        simp only [List.map_append,List.map_cons,List.mem_append,List.mem_cons]
        constructor
        ·rintro (h | h | h)
         ·exact .inl h
         ·exact absurd h.symm c
         ·exact .inr h
        ·rintro (h | h)
         ·exact .inl h
         ·exact .inr (.inr h)
       simp only [this]
     ·rw [hq9,if_pos (by simp)] at e4;cases e4
end
end Go.Proofs.YtcfioaeamfappaaGreatDoor
