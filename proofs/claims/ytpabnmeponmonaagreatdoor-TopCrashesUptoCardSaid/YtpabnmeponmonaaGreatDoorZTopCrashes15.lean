/-
  15.
-/
import Derived.Test.YtpabnmeponmonaaGreatDoorZTopCrashes14
set_option maxRecDepth 10000
set_option maxHeartbeats 4000000
open List Go.Proofs.Tryz Go.Sl
namespace Go.Sl
def aM (m:Nat)(x:Pt):Nat:=(x.at_ / m).toNat
def bA (g:Nat)(a:Rm)(m:Nat)(fs:List Pt):Rm:=fs.foldl (fun a x=>a.free g (aM m x)) a
theorem jA (g:Nat)(a:Rm)(m:Nat)(fs:List Pt)(x:Pt):bA g a m (fs++[x])=(bA g a m fs).free g (aM m x):=by simp [bA]
def aY (d:List (Int×List Pt)):List Pt:=d.flatMap (·.2)
structure rA (m:Nat)(a:Rm)(od:List (Int×List Pt)):Prop where
 top:∀x∈aY od,x.top=0
 at_:∀x∈aY od,x.at_=(aM m x:Nat)*(m:Int)
 hd:∀x∈aY od,aM m x∈a.D
 wt:∀x∈aY od,aM m x∉a.W
 inj:∀x∈aY od,∀y∈aY od,aM m x=aM m y->x=y
structure je (s m:Int)(mn:Nat)(g:Nat)(a:Rm)(fs:List Pt):Prop where
 ok:(bA g a mn fs).Ok s m
 d:(bA g a mn fs).D=a.D
 w:∀k∈(bA g a mn fs).W,k∈a.W\/∃x∈fs,aM mn x=k
theorem je.nil {s m:Int}{mn g:Nat}{a:Rm}(ha:a.Ok s m):je s m mn g a []:=⟨ha,rfl,fun _ h=>.inl h⟩
theorem je.snoc {s m:Int}{mn g:Nat}{a:Rm}{fs:List Pt}{x:Pt}{od:List (Int×List Pt)}(h:je s m mn g a fs)(ho:rA mn a od)(hf:∀y∈fs,y∈aY od)(hx:x∈aY od)(hn:x∉fs) :
  aM mn x∈(bA g a mn fs).D/\aM mn x∉(bA g a mn fs).W/\je s m mn g a (fs++[x]):=by
 have h1:aM mn x∈(bA g a mn fs).D:=by rw [h.d];exact ho.hd x hx
 have h2:aM mn x∉(bA g a mn fs).W:=fun hc=>by
  rcases h.w _ hc with hc | ⟨y,hy,e⟩
  ·exact ho.wt x hx hc
  ·exact hn (ho.inj y (hf y hy) x hx e ▸ hy)
 refine ⟨h1,h2, ?_, ?_,fun k hk => ?_⟩
 ·rw [jA];exact Rm.Vb h.ok g h1 h2
 ·rw [jA];exact h.d
 ·rw [jA] at hk
  have:=(Bf (bA g a mn fs).fV g (aM mn x)).mem_iff.1 hk
  rcases List.mem_append.1 this with hk | hk
  ·rcases h.w k hk with h | ⟨y,hy,e⟩
   ·exact .inl h
   ·exact .inr ⟨y,mem_append_left _ hy,e⟩
  ·exact .inr ⟨x,by simp,(mem_singleton.1 hk).symm⟩
theorem xw {d:List (Int×List Pt)}{q:Int}{l:List Pt}(h:aJ d q=some l):∀x∈l,x∈aY d:=fun x hx=>mem_flatMap.2 ⟨(q,l),aI h,hx⟩
theorem mj {β:Type}:∀ {M:List (Int×β)} {e:Int×β},(M.map (·.1)).Nodup->e∈M->aJ M e.1=some e.2
 | x :: r,e,hn,h=>by
  rw [map_cons,nodup_cons] at hn
  rcases List.mem_cons.1 h with rfl | h
  ·simp [aJ]
  ·have:x.1≠e.1:=fun c=>hn.1 (by rw [c];exact mem_map_of_mem h)
   have h2:=mj hn.2 h
   unfold aJ at h2 ⊢
   rw [find?_cons_of_neg (by simpa using this)]
   exact h2
structure KU {α:Type}(_lay:α->List Value)(_u:α):Prop
section
variable {α:Type}[DecidableEq α]{lay:α->List Value}{u:α}{X:Cx}{f:Fx}{ops:List Oper}{k:Kt}{Ms Ls Rs:List Chunk}{κ:Nat}{r':aB}{e:Env}{x y z:Operand}{r d:Nat}{t kt et:TypeId}{L:List α}{C:Chunk}
theorem WD.afw (_:KU lay u)(hκ:calm κ=true)(hx:ev e x=some (.map (some r)))(hy:ev e y=some (.agg (lay u).toArray))(hT:X.T.Ok X.P)(ht:mpA X.T t=some (kt,et))(hz:zv X.T et=some (.bool false))(hK:sy X.T X.P kt lay)(hC:Du lay r L C)(hm:C∈Ag κ Ms Ls)
  (g:WO X f ops k Ms r' ((d,.bool (decide (u∈L))) :: e) Ls):WD X f ops k Ms κ (some d) (.lookup t x y false) r' e Ls:=.lkS hκ hx hy hT ht hz hK hC hm g
theorem WD.aaF (_:KU lay u)(hκ:dR κ=true)(hx:ev e x=some (.map (some r)))(hy:ev e y=some (.agg (lay u).toArray))(hz:ev e z=some (.bool true))(hT:X.T.Ok X.P)(ht:mpA X.T t=some (kt,et))(hK:sy X.T X.P kt lay)(hC:Du lay r L C)(hp:Ls.Perm (C :: Rs))
  (hM:cZ κ Ms Rs) (g:∀C',Du lay r (if u∈L then L else L++[u]) C'->WO X f ops k Ms r' e (C' :: Rs)):WD X f ops k Ms κ none (.mapUpdate t x y z) r' e Ls:=.ab2 hκ hx hy hz hT ht hK hC hp hM g
end
end Go.Sl
namespace Go.Proofs.YtpabnmeponmonaaGreatDoor
theorem glu {G H:Prop}{α:Type}(lay:α->List Value)(u:α)(k:H)(h:KU lay u->im H->G:=by
 intro ku kk;refine go ?_;refine WO.dec rfl ?_
 apply WD.afw ku;exact rfl;exact rfl;exact rfl;exact aD;exact rfl;exact rfl;assumption;assumption;exact mem;exact kk.out):G:=h ⟨⟩ ⟨k⟩
theorem guu {G H:Prop}{α:Type}(lay:α->List Value)(u:α)(k:H)(h:KU lay u->im H->G:=by
 intro ku kk;refine go ?_;refine WO.dec rfl ?_
 apply WD.aaF ku;exact rfl;exact rfl;exact rfl;exact rfl;exact aD;exact rfl;assumption;assumption;exact pick;exact keeps;exact kk.out):G:=h ⟨⟩ ⟨k⟩
theorem X9:sy KR prog 121 Pt.lay where
 eq:=fun x y=>by
  have:Y5 KR 8 121 (Pt.lay x) (Pt.lay y)=some (x.top==y.top&&(x.at_==y.at_&&(x.bytes==y.bytes&&((x.bg:Int)==y.bg&&(x.kind==y.kind&&((x.a:Int)==y.a&&((x.b:Int)==y.b&&((x.c:Int)==y.c&&(x.d:Int)==y.d)))))))):=rfl
  rw [this]
  cases x;cases y
  congr 1
  rw [Bool.eq_iff_iff]
  simp
  omega
 nh:=by decide +kernel
 ag:=by decide +kernel
 st:=⟨_,rfl⟩
 sb:=fun x=>by simp [Pt.lay,Instr.sameBits]
section
variable (t pool:Nat)(tp:Tp)(pr:Bool)(n:Nat)(ls:List (Option Lv))(no:Nat)(V:Chunk)(hV:iZ t pool tp pr n ls no V)(ok:dj tp pr n ls.length)(dq:n<=2048)
variable (s al:Nat)(ra rd ae note:Nat)
include hV ok dq
theorem aaG (m:Nat)(hm:m=aL pr ls.length 1024)(a:Rm)(ha:a.Ok (bD pr ls.length n:Nat) m)(Al:Chunk)(hA:qg al ((bD pr ls.length n:Nat):Int) (m:Nat) a Al)(yD:ae<18446744073709551616)
  (r1 r2:Nat) (Ln:List (Int×Value)) (nd:List (Int×List Pt)) (CN VN:Chunk) (hN:Mp r2 .i64 Ln CN) (hNV:fo QI Ln nd VN) (Nu:∀e∈nd,e.2.length<=200)
  (Ld:List (Int×Value)) (od:List (Int×List Pt)) (CD VD:Chunk) (hD:Mp rd .i64 Ld CD) (hDV:fo QI Ld od VD) (ny:∀e∈od,e.2.length<=200) (Tl:rA m a od) :
  Ct 72 [ptr s,.map (some r1),.map (some r2)] [[(s,bU t (ptr al) ra rd ae note)],V,CN,VN,CD,VD,Al] fun u Bs=>u = .int .i64 0/\∃fs jO,fs.Nodup/\(∀x,x∈fs↔x∈aY od/\x∉aY nd)/\je (bD pr ls.length n:Nat) m m ae a fs/\qg al ((bD pr ls.length n:Nat):Int) (m:Nat) ((bA ae a m fs).sync ae) jO/\Bs=[[(s,bU t (ptr al) r1 r2 ae note)],V,CN,VN,CD,VD,jO]:=by
 have hky:=X9
 have hz:=ir pr ok.hw ⟨ok.hn.1,dq⟩
 have hmb:=tG pr ok.hw ok.hp
 rw [<-hm] at hmb
 have hnN:=hNV.keys
 have hnD:=hDV.keys
 have Tm:(nd.map (·.1)).Nodup:=by rw [hnN];exact hN.nodup
 have hdn:(od.map (·.1)).Nodup:=by rw [hnD];exact hD.nodup
 refine st func72 fun w0 => ?_
 refine vY .i64 ?_;intro r7 C7 h7
 refine gr ?_
 intro it DI hI
 refine gl [0,1,2,6,7,19] (fun (_:List Pt×List (Int×Value)×Chunk×Chunk)=>[]) (fun (_,_,M7,DI)=>[CN,DI,VN,M7]) (fun (K,rest,M7,DI)=>y8 r2 it .i64 Ln rest CN DI/\Du Pt.lay r7 K M7/\(∀x∈K,x∈aY nd)/\∀x∈aY nd,x∈K\/∃q∈rest.map (·.1),∃l,aJ nd q=some l/\x∈l) (fun (_,rest,_)=>rest.length) ([],Ln,C7,DI) ⟨hI,Du.start h7,fun _ h=>(not_mem_nil h).elim,fun x hx=>.inr ?_⟩ ?_
 ·obtain ⟨e,he,x6⟩:=mem_flatMap.1 hx
  exact ⟨e.1,by rw [<-hnN];exact mem_map_of_mem he,e.2,mj Tm he,x6⟩
 clear hI h7
 rintro ⟨K,rest,M7,DI⟩ ⟨hI,hK,hKn,VK⟩
 refine OT ?_ ?_
 ·rintro rfl
  have acU:∀x,x∈K↔x∈aY nd:=fun x=>⟨hKn x,fun h=>(VK x h).resolve_right (by rintro ⟨q,hq, -⟩;cases hq)⟩
  clear hKn VK
  have hMp:=hI.mp
  clear hI
  refine gr ?_
  intro it2 yA hI
  refine gl [0,1,2,6,7,37] (fun (_:List Pt×List Pt×List (Int×Value)×Chunk×Chunk×Chunk)=>[]) (fun (_,_,_,M7,DI,Al)=>[CD,DI,VD,M7,Al]) (fun (K,fs,rest,M7,DI,Al)=>y8 rd it2 .i64 Ld rest CD DI/\Du Pt.lay r7 K M7/\(∀x,x∈K↔x∈aY nd\/x∈fs)/\fs.Nodup/\(∀x∈fs,x∈aY od/\x∉aY nd)/\je (bD pr ls.length n:Nat) m m ae a fs/\qg al ((bD pr ls.length n:Nat):Int) (m:Nat) (bA ae a m fs) Al/\∀x∈aY od,x∈K\/∃q∈rest.map (·.1),∃l,aJ od q=some l/\x∈l) (fun (_,_,rest,_)=>rest.length) (K,[],Ld,M7,yA,Al) ⟨hI,‹Du Pt.lay r7 K M7›,fun x=>by rw [acU];simp,nodup_nil,fun _ h=>(not_mem_nil h).elim,.nil ha,hA,fun x hx=>.inr ?_⟩ ?_
  ·obtain ⟨e,he,x6⟩:=mem_flatMap.1 hx
   exact ⟨e.1,by rw [<-hnD];exact mem_map_of_mem he,e.2,mj hdn he,x6⟩
  clear hI hA ha acU
  rintro ⟨K,fs,rest,M7,DI3,Al⟩ ⟨hI,hK,VL,xV,NF,tW,hA,VK⟩
  refine OT ?_ ?_
  ·rintro rfl
   refine gc (Vd al _ m oZ oZ _ tW.ok Al hA ae yD) ?_
   rintro _ _ ⟨jO,eo,rfl⟩
   refine gz ?_
   exact fin ⟨rfl,fs,jO,xV,fun x=>⟨NF x,fun ⟨h1,h2⟩=>by
    rcases VK x h1 with h | ⟨q,hq, -⟩
    ·exact ((VL x).1 h).resolve_left h2
    ·cases hq⟩,tW,eo,rfl⟩ aa
  ·rintro X q v Y HB rfl iy rO hE
   rcases hDV.look q with ⟨h1, -⟩ | ⟨v',l,V1,D,V2,h1,h2,rfl,zt, -, -⟩
   ·rw [iy] at h1;cases h1
   ·obtain rfl:v=v':=by rw [iy] at h1;exact Option.some.inj h1
    have zt:aC D 121 9 v l.length (aR l):=zt
    have jW:=zt.rd
    have gH:l.length<=200:=ny _ (aI h2)
    obtain ⟨pO,cl,rfl⟩:=jW.slice
    refine OU ?_
    refine gs ?_
    refine gl [0,1,2,6,7,37,42,43] (fun ((i,_):Nat×List Pt×List Pt×Chunk×Chunk)=>[(44,.int .i64 i)]) (fun (_,_,_,M7,Al)=>[M7,Al]) (fun (i,K2,fs,M7,Al)=>i<=l.length/\Du Pt.lay r7 K2 M7/\(∀x,x∈K2↔x∈aY nd\/x∈fs)/\fs.Nodup/\(∀x∈fs,x∈aY od/\x∉aY nd)/\je (bD pr ls.length n:Nat) m m ae a fs/\qg al ((bD pr ls.length n:Nat):Int) (m:Nat) (bA ae a m fs) Al/\(∀x∈K,x∈K2)/\∀x∈l.take i,x∈K2) (fun (i,_)=>l.length - i) (0,K,fs,M7,Al) ⟨by omega,hK,VL,xV,NF,tW,hA,fun _ h=>h,fun x h=>by rw [take_zero] at h;cases h⟩ ?_
    clear hK VL xV NF tW hA
    rintro ⟨i,K2,fs,M7,Al⟩ ⟨hi,hK2,VL,xV,NF,tW,hA,Rw,jK⟩
    refine gi ?_ ?_ <;> intro br
    ·have bh:i<l.length:=oZ
     obtain ⟨g,off,rfl⟩:=jW.addr oZ
     have hs:=av (lay:=Pt.lay) (s:=9) (fun _=>rfl) l i l[i] (by simp)
     have Cq:l[i]∈aY od:=xw h2 _ (getElem_mem bh)
     obtain ⟨x,hx⟩:∃x,x=l[i]:=⟨_,rfl⟩
     rw [<-hx] at hs Cq
     have mU:=JL s t pool tp pr n ls no V hV ok dq (ptr al) ra rd ae note x (Tl.top x Cq)
     rw [<-hm,Tl.at_ x Cq] at mU
     refine ga ?_;intro b15
     refine glu Pt.lay x ?_
     refine gi ?_ ?_ <;> intro jH
     ·have jH:x∈K2:=by simpa using jH
      refine gn ?_
      refine ⟨(i+1,K2,fs,M7,Al),⟨by omega,hK2,VL,xV,NF,tW,hA,Rw,fun y hy => ?_⟩,sOZ,ar,_,aa⟩
      rw [aK l bh] at hy
      rcases List.mem_append.1 hy with hy | hy
      ·exact jK y hy
      ·rw [mem_singleton.1 hy,<-hx];exact jH
     ·have jH:x∉K2:=by simpa using jH
      have hxf:x∉fs:=fun h=>jH ((VL x).2 (.inr h))
      have hxn:x∉aY nd:=fun h=>jH ((VL x).2 (.inl h))
      obtain ⟨g1,g2,g3⟩:=tW.snoc Tl (fun y hy=>(NF y hy).1) Cq hxf
      have pv:=Vc al _ m oZ oZ _ tW.ok Al hA ae _ g1 g2
      refine guu Pt.lay x ?_
      rw [if_neg jH]
      intro M8 hK3
      refine rQ [[(s,bU t (ptr al) ra rd ae note)],[(b15,ax x.lay 121)]] [0,4,8,12,16,20,28,32,36,40,25,47,50] ?_
      refine gc mU ?_
      rintro _ _ ⟨rfl,rfl⟩
      refine gc pv ?_
      rintro _ _ ⟨rfl,jO,eo,rfl⟩
      refine gn ?_
      refine ⟨(i+1,K2++[x],fs++[x],M8,jO),⟨by omega,hK3,fun y => ?_, ?_,fun y hy => ?_,g3,by rw [jA];exact eo,fun y hy=>mem_append_left _ (Rw y hy),fun y hy => ?_⟩,sOZ,ar,_,aa⟩
      ·rw [List.mem_append,List.mem_append,VL y,or_assoc]
      ·rw [nodup_append]
       exact ⟨xV,by simp,fun y hy z hz e=>by rw [mem_singleton.1 hz] at e;exact hxf (e ▸ hy)⟩
      ·rcases List.mem_append.1 hy with hy | hy
       ·exact NF y hy
       ·rw [mem_singleton.1 hy];exact ⟨Cq,hxn⟩
      ·rw [aK l bh] at hy
       rcases List.mem_append.1 hy with hy | hy
       ·exact mem_append_left _ (jK y hy)
       ·rw [mem_singleton.1 hy,<-hx];simp
    ·obtain rfl:i=l.length:=oZ
     rw [take_length] at jK
     refine gn ?_
     refine ⟨(K2,fs,X++Y,M7,HB,Al),⟨rO,hK2,VL,xV,NF,tW,hA,fun x hx => ?_⟩,by simp only [length_append,length_cons];omega,ar,_,aa⟩
     rcases VK x hx with h | ⟨q',nW,l',jI,Gh⟩
     ·exact .inl (Rw x h)
     ·rw [map_append,map_cons,List.mem_append,List.mem_cons] at nW
      rcases nW with nW | rfl | nW
      ·exact .inr ⟨q',by rw [map_append];exact mem_append_left _ nW,l',jI,Gh⟩
      ·rw [h2] at jI;cases jI;exact .inl (jK x Gh)
      ·exact .inr ⟨q',by rw [map_append];exact mem_append_right _ nW,l',jI,Gh⟩
 ·rintro X q v Y HB rfl iy rO hE
  rcases hNV.look q with ⟨h1, -⟩ | ⟨v',l,V1,D,V2,h1,h2,rfl,zt, -, -⟩
  ·rw [iy] at h1;cases h1
  ·obtain rfl:v=v':=by rw [iy] at h1;exact Option.some.inj h1
   have zt:aC D 121 9 v l.length (aR l):=zt
   have jW:=zt.rd
   have gH:l.length<=200:=Nu _ (aI h2)
   obtain ⟨pO,cl,rfl⟩:=jW.slice
   refine OU ?_
   refine gs ?_
   refine gl [0,1,2,6,7,19,24,25] (fun ((i,_):Nat×List Pt×Chunk)=>[(26,.int .i64 i)]) (fun (_,_,M7)=>[M7]) (fun (i,K2,M7)=>i<=l.length/\Du Pt.lay r7 K2 M7/\(∀x∈K2,x∈aY nd)/\(∀x∈K,x∈K2)/\∀x∈l.take i,x∈K2) (fun (i,_)=>l.length - i) (0,K,M7) ⟨by omega,hK,hKn,fun _ h=>h,fun x h=>by rw [take_zero] at h;cases h⟩ ?_
   clear hK
   rintro ⟨i,K2,M7⟩ ⟨hi,hK2,aaH,Rw,jK⟩
   refine gi ?_ ?_ <;> intro br
   ·have bh:i<l.length:=oZ
    obtain ⟨g,off,rfl⟩:=jW.addr oZ
    have hs:=av (lay:=Pt.lay) (s:=9) (fun _=>rfl) l i l[i] (by simp)
    refine ga ?_;intro b11
    refine guu Pt.lay l[i] ?_
    intro M8 hK3
    refine gn ?_
    refine ⟨(i+1,_,M8),⟨by omega,hK3,fun x hx => ?_,fun x hx => ?_,fun x hx => ?_⟩,sOZ,ar,_,aa⟩
    ·split at hx
     ·exact aaH x hx
     ·rcases List.mem_append.1 hx with hx | hx
      ·exact aaH x hx
      ·rw [mem_singleton.1 hx];exact xw h2 _ (getElem_mem bh)
    ·split
     ·exact Rw x hx
     ·exact mem_append_left _ (Rw x hx)
    ·rw [aK l bh] at hx
     rcases List.mem_append.1 hx with hx | hx
     ·split
      ·exact jK x hx
      ·exact mem_append_left _ (jK x hx)
     ·rw [mem_singleton.1 hx]
      split
      ·assumption
      ·simp
   ·obtain rfl:i=l.length:=oZ
    rw [take_length] at jK
    refine gn ?_
    refine ⟨(K2,X++Y,M7,HB),⟨rO,hK2,aaH,fun x hx => ?_⟩,by simp only [length_append,length_cons];omega,ar,_,aa⟩
    rcases VK x hx with h | ⟨q',nW,l',jI,Gh⟩
    ·exact .inl (Rw x h)
    ·rw [map_append,map_cons,List.mem_append,List.mem_cons] at nW
     rcases nW with nW | rfl | nW
     ·exact .inr ⟨q',by rw [map_append];exact mem_append_left _ nW,l',jI,Gh⟩
     ·rw [h2] at jI;cases jI;exact .inl (jK x Gh)
     ·exact .inr ⟨q',by rw [map_append];exact mem_append_right _ nW,l',jI,Gh⟩
end
end Go.Proofs.YtpabnmeponmonaaGreatDoor
namespace Go.Sl
def nO (pr:Bool)(ls:List (Option Lv))(n gt:Nat)(P:PS)(o:Ob)(P':PS)(o':Ob):Prop:=(o.clean=true/\P'=P/\o'=o)\/(o.clean=false/\nM pr ls n gt P o P' o')
def Fv (NL:Nat)(o:Ob):Nat:=if o.clean then 0 else yf NL+o.fresh.length
inductive iu (pr:Bool)(ls:List (Option Lv))(n gt:Nat)(all:List (Int×Ob))(P:PS):List Int->PS->List (Int×Ob)->List (Int×List Pt)->Prop
 | nil:iu pr ls n gt all P [] P [] []
 | snoc {ks:List Int} {P1 P2:PS} {os:List (Int×Ob)} {ds:List (Int×List Pt)} {k:Int} {o o':Ob}:iu pr ls n gt all P ks P1 os ds->aJ all k=some o->nO pr ls n gt P1 o P2 o'->iu pr ls n gt all P (ks++[k]) P2 (os++[(k,o')]) (ds++[(k,bL (o'.aA++o'.index))])
structure PS.Ge (P P':PS):Prop where
 fV:P'.x.fV=P.x.fV
 sub:∀k∈P.x.D,k∈P'.x.D
theorem PS.Ge.rfl {P:PS}:P.Ge P:=⟨Eq.refl _,fun _ h=>h⟩
theorem PS.Ge.trans {P Q R:PS}(h:P.Ge Q)(k:Q.Ge R):P.Ge R:=⟨k.fV.trans h.fV,fun x hx=>k.sub x (h.sub x hx)⟩
section
variable {pr:Bool}{ls:List (Option Lv)}{n gt:Nat}{P P':PS}
theorem j4.ge {b:List UInt8}{pt:Pt}(h:j4 pr ls n gt P b P' pt):P.Ge P':=by
 rcases h with ⟨-,rfl, -⟩ | ⟨-,k, -, -, -,rfl⟩
 ·exact .rfl
 ·exact ⟨rfl,fun x hx=>mem_cons_of_mem _ hx⟩
theorem j4.rok {b:List UInt8}{pt:Pt}(h:j4 pr ls n gt P b P' pt)(hx:P.x.Ok (bD pr ls.length n:Nat) (aL pr ls.length 1024:Nat)):P'.x.Ok (bD pr ls.length n:Nat) (aL pr ls.length 1024:Nat):=by
 rcases h with ⟨-,rfl, -⟩ | ⟨-,k,hk,jN, -,rfl⟩
 ·exact hx
 ·exact ⟨fun j hj=>(List.mem_cons.1 hj).elim (fun e=>by rw [e];exact jN) (hx.dl j),hx.wn,fun j hj=>mem_cons_of_mem _ (hx.wd j hj)⟩
structure PS.Go (pr:Bool)(ls:List (Option Lv))(n:Nat)(P P':PS):Prop where
 ge:P.Ge P'
 ok:P.x.Ok (bD pr ls.length n:Nat) (aL pr ls.length 1024:Nat)->P'.x.Ok (bD pr ls.length n:Nat) (aL pr ls.length 1024:Nat)
theorem PS.Go.rfl:P.Go pr ls n P:=⟨.rfl,fun h=>h⟩
theorem PS.Go.trans {Q R:PS}(h:P.Go pr ls n Q)(k:Q.Go pr ls n R):P.Go pr ls n R:=⟨h.ge.trans k.ge,fun x=>k.ok (h.ok x)⟩
theorem j4.go {b:List UInt8}{pt:Pt}(h:j4 pr ls n gt P b P' pt):P.Go pr ls n P':=⟨h.ge,h.rok⟩
theorem gQ.go {bs:List (List UInt8)}{ps:List Pt}(h:gQ pr ls n gt P bs P' ps):P.Go pr ls n P':=by
 induction h with
 | nil=>exact .rfl
 | snoc _ h ih=>exact ih.trans h.go
theorem kC.go {l idx:List Pt}{root:Pt}(h:kC pr ls n gt P P' l idx root):P.Go pr ls n P':=by
 rcases h with ⟨-,rfl, -, -⟩ | ⟨-,level,P1,h1,h2, -⟩
 ·exact .rfl
 ·exact h1.go.trans h2.go
theorem Fq.go {fresh:List (Int×List UInt8)}{l0 l1:List Pt}{ks:List Int}(h:Fq pr ls n gt fresh P l0 ks P' l1):P.Go pr ls n P':=by
 induction h with
 | nil=>exact .rfl
 | snoc _ _ h ih=>exact ih.trans h.go
theorem nM.go {o o':Ob}(h:nM pr ls n gt P o P' o'):P.Go pr ls n P':=by
 obtain ⟨ks,P1,l1,idx,root, -, -,h1,h2, -⟩:=h
 exact h1.go.trans h2.go
theorem nO.go {o o':Ob}(h:nO pr ls n gt P o P' o'):P.Go pr ls n P':=by
 rcases h with ⟨-,rfl, -⟩ | ⟨-,h⟩
 ·exact .rfl
 ·exact h.go
theorem iu.go {all os:List (Int×Ob)}{ks:List Int}{ds:List (Int×List Pt)}(h:iu pr ls n gt all P ks P' os ds):P.Go pr ls n P':=by
 induction h with
 | nil=>exact .rfl
 | snoc _ _ h ih=>exact ih.trans h.go
theorem rA.go {m:Nat}{od:List (Int×List Pt)}(h:rA m P.x od)(g:P.Ge P'):rA m P'.x od :=
 ⟨h.top,h.at_,fun x hx=>g.sub _ (h.hd x hx),fun x hx=>by rw [show P'.x.W=P.x.W by unfold Rm.W;rw [g.fV]];exact h.wt x hx,h.inj⟩
theorem iu.keys {all os:List (Int×Ob)}{ks:List Int}{ds:List (Int×List Pt)}(h:iu pr ls n gt all P ks P' os ds):os.map (·.1)=ks/\ds.map (·.1)=ks:=by
 induction h with
 | nil=>exact ⟨rfl,rfl⟩
 | snoc _ _ _ ih=>rw [map_append,map_append,ih.1,ih.2];exact ⟨rfl,rfl⟩
end
section
variable {β:Type}
def ua (ks:List Int)(M:List (Int×β)):List (Int×β):=M.filter fun e => !ks.contains e.1
theorem Fw (M:List (Int×β)):ua [] M=M:=by unfold ua;rw [filter_eq_self];intro e _;rfl
theorem zE (ks:List Int)(k:Int)(M:List (Int×β)):pR (ua ks M) k=ua (ks++[k]) M:=by
 unfold pR ua
 rw [filter_filter]
 apply filter_congr
 intro e _
 rw [Bool.eq_iff_iff]
 simp [and_comm]
theorem BE {ks:List Int}{k:Int}(h:k∉ks):∀(M:List (Int×β)),aJ (ua ks M) k=aJ M k
 | []=>rfl
 | e :: r=>by
  have ih:=BE h r
  unfold ua at *
  by_cases c:ks.contains e.1
  ·rw [filter_cons_of_neg (by simpa using c),ih]
   have:e.1≠k:=by rintro rfl;exact h (by simpa using c)
   unfold aJ;rw [find?_cons_of_neg (by simpa using this)]
  ·rw [filter_cons_of_pos (by simpa using c)]
   unfold aJ at *
   by_cases d:e.1=k
   ·rw [find?_cons_of_pos (by simpa using d),find?_cons_of_pos (by simpa using d)]
   ·rw [find?_cons_of_neg (by simpa using d),find?_cons_of_neg (by simpa using d)];exact ih
theorem nP {q:Int}{x:β}:∀ {M:List (Int×β)},q∉M.map (·.1)->eu M q x=M++[(q,x)]
 | [],_=>rfl
 | (p,u) :: L,h=>by
  rw [map_cons,List.mem_cons,not_or] at h
  rw [eu,if_neg (fun e=>h.1 e.symm),nP h.2];rfl
theorem kD {q:Int}{M:List (Int×β)}(h:q∉M.map (·.1)):aJ M q=none:=by
 unfold aJ
 rw [Option.map_eq_none_iff,find?_eq_none]
 intro e he
 simpa using fun c:e.1=q=>h (by rw [<-c];exact mem_map_of_mem he)
theorem lL {q k:Int}{x:β}:∀ {M:List (Int×β)},q∉M.map (·.1)->aJ (M++[(q,x)]) k=if k=q then some x else aJ M k
 | [],_=>by
  unfold aJ
  by_cases c:k=q
  ·subst c;simp
  ·have:¬q=k:=fun h=>c h.symm
   simp [c,this]
 | e :: r,h=>by
  rw [map_cons,List.mem_cons,not_or] at h
  have ih:=lL (k:=k) (x:=x) h.2
  unfold aJ at *
  rw [cons_append]
  by_cases d:e.1=k
  ·rw [find?_cons_of_pos (by simpa using d),find?_cons_of_pos (by simpa using d),if_neg (by rintro rfl;exact h.1 d.symm)]
  ·rw [find?_cons_of_neg (by simpa using d),find?_cons_of_neg (by simpa using d)];exact ih
def jB:Nat->List β->List (Int×β)
 | _,[]=>[]
 | i,v :: r=>((i:Int),v) :: jB (i+1) r
theorem lN:∀(i:Nat) (l:List β),(jB i l).length=l.length
 | _,[]=>rfl
 | i,v :: r=>by simp [jB,lN (i+1) r]
theorem nQ:∀(i:Nat) (l:List β) (j:Nat) (h:j<(jB i l).length),(jB i l)[j]=(((i+j:Nat):Int),l[j]'(by rw [<-lN i l];exact h))
 | i,v :: r,0,_=>rfl
 | i,v :: r,j+1,h=>by
  have:=nQ (i+1) r j (by simpa [jB] using h)
  simp only [jB,getElem_cons_succ]
  rw [this]
  congr 2;omega
theorem rB {i:Nat}{l:List β}:∀ {e:Int×β},e∈jB i l->∃j,j<l.length/\e.1=((i+j:Nat):Int)/\l[j]? = some e.2:=by
 intro e he
 obtain ⟨j,hj,rfl⟩:=getElem_of_mem he
 have Af:=hj
 rw [lN] at Af
 rw [nQ]
 exact ⟨j,Af,rfl,by simp [Af]⟩
theorem pV:∀(i:Nat) (l:List β),((jB i l).map (·.1)).Nodup
 | _,[]=>nodup_nil
 | i,v :: r=>by
  simp only [jB,map_cons,nodup_cons]
  refine ⟨fun h => ?_,pV (i+1) r⟩
  obtain ⟨e,he,e2⟩:=mem_map.1 h
  obtain ⟨j, -,e3, -⟩:=rB he
  omega
end
theorem aaI {L:List (Int×Value)}{q:Int}{v:Value}:iw L q v=eu L q v:=by
 induction L with
 | nil=>rfl
 | cons e r ih=>obtain ⟨p,u⟩:=e;simp only [iw,eu,ih]
theorem Rx {L:List (Int×Value)}{q:Int}{v:Value}(h:q∉L.map (·.1)):iw L q v=L++[(q,v)]:=by rw [aaI,nP h]
def slotsOf (os:List (Int×Ob)):List fv:=(List.range 112).map fun (i:Nat)=>match aJ os ((i+1:Nat):Int) with
 | some o=>o.slot
 | none=>eK
theorem ej (os:List (Int×Ob)):(slotsOf os).length=112:=by simp [slotsOf]
theorem tJ:slotsOf []=replicate 112 eK:=by
 unfold slotsOf
 apply ext_getElem (by simp)
 intro i h1 h2
 rw [getElem_map,getElem_replicate];rfl
theorem BF {os:List (Int×Ob)}{k:Nat}{o:Ob}(hk:k<112)(h:((k+1:Nat):Int)∉os.map (·.1)):slotsOf (os++[(((k+1:Nat):Int),o)])=(slotsOf os).set k o.slot:=by
 apply ext_getElem (by simp [slotsOf])
 intro i h1 h2
 rw [getElem_set]
 unfold slotsOf
 simp only [getElem_map,getElem_range,lL h]
 by_cases c:k=i
 ·subst c;simp
 ·rw [if_neg c,if_neg oZ]
theorem tK {os:List (Int×Ob)}{x:fv}(h:x∈slotsOf os):x=eK\/∃k o,aJ os k=some o/\x=o.slot:=by
 obtain ⟨i, -,rfl⟩:=mem_map.1 h
 cases hl:aJ os ((i+1:Nat):Int) with
 | none=>exact .inl (by simp only)
 | some o=>exact .inr ⟨_,o,hl,by simp only⟩
def jl (b:List UInt8):Ob:=⟨false,0,ai,[],[],jB 0 (fm b),false⟩
theorem zF {b:List UInt8}:∀x∈fm b,x.length<=1024:=fun x hx=>by
 obtain ⟨g,hg,rfl⟩:=mem_map.1 hx
 have h1:=lK g
 obtain ⟨i,hi,rfl⟩:=getElem_of_mem hg
 rw [l5] at *
 simp only [length_take] at h1
 omega
end Go.Sl
namespace Go.Proofs.YtpabnmeponmonaaGreatDoor
theorem Ry:∀ {V:Chunk} {vs:List Value} {xs:List (List UInt8)} (i:Nat),x5 5 1 au V vs xs->fo mf (jB i vs) (jB i xs) V
 | _,[],[],_,h=>h
 | _,_ :: _,_ :: _,i,⟨C,D',e,hC,h⟩=>⟨rfl,C,D',hC,Ry (i+1) h,e⟩
 | _,[],_ :: _,_,h=>h.elim
 | _,_ :: _,[],_,h=>h.elim
end Go.Proofs.YtpabnmeponmonaaGreatDoor
namespace Go.Sl
structure BG (NL:Nat)(o:Ob):Prop where
 fk:∀e∈o.fresh,0<=e.1/\e.1<NL/\e.2.length<=1024
 fl:o.fresh.length<=64
 pl:o.aA.length<=NL
 po:∀x∈o.aA,fK x=0/\x.Ok
 il:o.index.length<=5
 rt:fK o.root=0/\o.root.Ok
theorem lO (l:List Pt):(bL l).length<=l.length:=length_filter_le _ _
theorem Rz (l:List fv):∀u∈l.flatMap fv.lay,u.oneCell'=true:=fun u hu=>by
 obtain ⟨x, -,hx⟩:=mem_flatMap.1 hu
 simp only [fv.lay,List.mem_cons,not_mem_nil,or_false] at hx
 rcases hx with rfl | rfl | rfl | rfl | rfl | rfl | rfl | rfl | rfl | rfl | rfl <;> rfl
theorem J4 {ls:List (Option Lv)}(h:ls.length<=5):(de ls).length<=5:=by
 have:=bY (f:=nz ls) (c:=1) (fun k=>by unfold nz;split <;> simp) ls.length
 unfold de;omega
section
variable {pr:Bool}{ls:List (Option Lv)}{n gt NL:Nat}{P P':PS}(hz:bD pr ls.length n<=10240)(eV:1<=gt/\gt<=281474976710656)
theorem j4.bg {b:List UInt8}{pt:Pt}(h:j4 pr ls n gt P b P' pt):pt.bg<=gt:=by
 rcases h with ⟨-, -,rfl⟩ | ⟨-,k, -, -,rfl, -⟩
 ·exact Nat.zero_le _
 ·exact Nat.le_refl _
include hz eV
theorem Fq.RA {fresh:List (Int×List UInt8)}{l0 l1:List Pt}{ks:List Int}(hf:∀e∈fresh,0<=e.1/\e.1<NL/\e.2.length<=1024)(h0:l0.length<=NL)(h0o:∀x∈l0,fK x=0/\x.Ok)(h:Fq pr ls n gt fresh P l0 ks P' l1):l1.length<=NL/\∀x∈l1,fK x=0/\x.Ok:=by
 induction h with
 | nil=>exact ⟨h0,h0o⟩
 | snoc _ hl hp ih =>
  have hk:=hf _ (aI hl)
  refine ⟨by rw [length_set,Fp];simp only at hk;omega,fun x hx => ?_⟩
  rcases mem_or_eq_of_mem_set hx with hx | rfl
  ·rcases List.mem_append.1 hx with hx | hx
   ·exact ih.2 x hx
   ·rw [eq_of_mem_replicate hx];exact ⟨by simp [fK],dK⟩
  ·exact hp.pok hz hk.2.2 eV
theorem kC.RA {l idx:List Pt}{root:Pt}(hl:l.length<=64)(h:kC pr ls n gt P P' l idx root):idx.length<=5/\(fK root=0/\root.Ok)/\root.bg<=gt:=by
 rcases h with ⟨-, -,rfl,rfl⟩ | ⟨-,level,P1,h1,h2,rfl⟩
 ·exact ⟨by simp,⟨by simp [fK],dK⟩,Nat.zero_le _⟩
 ·have h3:=h1.len
  rw [oB] at h3
  have h4:dh l.length 16<=4:=by unfold dh;omega
  refine ⟨by simp;omega,h2.pok hz ?_ eV,h2.bg⟩
  have:=lK (fL level)
  rw [iP] at this
  omega
theorem nM.RA {o o':Ob}(hN:NL<=64)(ho:BG NL o)(h:nM pr ls n gt P o P' o'):o'.aA.length<=NL/\(∀x∈o'.aA,fK x=0/\x.Ok)/\o'.index.length<=5/\(fK o'.root=0/\o'.root.Ok)/\o'.used=o.used/\o'.size=o.size/\o'.root.bg<=gt:=by
 obtain ⟨ks,P1,l1,idx,root, -, -,h1,h2,rfl⟩:=h
 have h3:=h1.RA hz eV ho.fk ho.pl ho.po
 have h4:=h2.RA hz eV oZ
 exact ⟨h3.1,h3.2,h4.1,h4.2.1,rfl,rfl,h4.2.2⟩
theorem nO.RA {o o':Ob}(hN:NL<=64)(ho:BG NL o)(h:nO pr ls n gt P o P' o'):o'.aA.length<=NL/\(∀x∈o'.aA,fK x=0/\x.Ok)/\o'.index.length<=5/\(fK o'.root=0/\o'.root.Ok)/\o'.used=o.used/\o'.size=o.size:=by
 rcases h with ⟨-, -,rfl⟩ | ⟨-,h⟩
 ·exact ⟨ho.pl,ho.po,ho.il,ho.rt,rfl,rfl⟩
 ·obtain ⟨h1,h2,h3,h4,h5,h6, -⟩:=h.RA hz eV hN ho
  exact ⟨h1,h2,h3,h4,h5,h6⟩
end
section
variable {X:Cx}{f:Fx}{ops:List Oper}{k:Kt}{Ms Ls Rs:List Chunk}{κ:Nat}{r':aB}{e:Env}
theorem WD.VM {α:Type}{lay:α->List Value}{y0:α}{xs:List α}{vs:List Value}{b i j s:Nat}{t T:TypeId}{x y:Operand}(hl:EP lay y0 xs i s)(hκ:dR κ=true)(hx:ev e x=some (.pointer (some ⟨b,j,none⟩)))(hy:ev e y=some (.agg vs.toArray))(hv:vs=lay y0)(hvl:vs.length=s)(h1:vs.all (·.oneCell')=true)(hT:X.T.Ok X.P)(hs:X.T.sz t=some s)(hp:Ls.Perm ([(b,ax (xs.flatMap lay) T)] :: Rs))(hi:i<xs.length)(hj:j=i*s)
  (hk:cZ κ Ms ([(b,ax ((xs.set i y0).flatMap lay) T)] :: Rs)) (g:WO X f ops k Ms r' e ([(b,ax ((xs.set i y0).flatMap lay) T)] :: Rs)):WD X f ops k Ms κ none (.store t x y) r' e Ls:=by
 have h:=@WD.Ru X f ops k Ms Ls Rs κ r' e α lay y0 xs vs [] b i j s t T x y hl hκ hx hy hv hvl h1 hT hs
 rw [append_nil,append_nil] at h
 exact h hp hi hj hk g
end
theorem fQ {α:Type}[DecidableEq α]:∀ {l m:List α},l.Nodup->(∀x∈l,x∈m)->l.length<=m.length
 | [],_,_,_=>Nat.zero_le _
 | x :: r,m,hn,h=>by
  rw [nodup_cons] at hn
  have hx:=h x (mem_cons_self ..)
  have:=fQ (l:=r) (m:=m.erase x) hn.2 fun y hy=>(mem_erase_of_ne (by rintro rfl;exact hn.1 hy)).2 (h y (mem_cons_of_mem _ hy))
  rw [length_erase_of_mem hx] at this
  have h2:=length_pos_of_mem hx
  simp only [length_cons];omega
def RB (z:Nat):Nat:=16*dh (dh z 1024) 16
def Fy (all:List (Int×Ob))(k:Int):Nat:=match aJ all k with
 | some o=>Fv (RB o.size) o
 | none=>0
def mG (all:List (Int×Ob))(ks:List Int):Nat:=(ks.map (Fy all)).sum
theorem Ia {all:List (Int×Ob)}{ks js:List Int}(h:ks.Perm js):mG all ks=mG all js:=(h.map _).sum_nat
def J5 (pr:Bool)(ls:List (Option Lv))(n ae:Nat)(all:List (Int×Ob))(od:List (Int×List Pt))(P:PS)(ks:List Int)(os:List (Int×Ob))(ds:List (Int×List Pt))(P2:PS)(mo:Ob)(fs:List Pt):Prop :=
 ∃P1 VQ,ks.Perm (all.map (·.1))/\iu pr ls n (ae+1) all P ks P1 os VQ/\nM pr ls n (ae+1) P1 (jl (fM (slotsOf os))) P2 mo/\ds=VQ++[(0,bL (mo.aA++mo.index))]/\fs.Nodup/\(∀x,x∈fs↔x∈aY od/\x∉aY ds) /\
  je (bD pr ls.length n:Nat) (aL pr ls.length 1024:Nat) (aL pr ls.length 1024) (ae+1) P2.x fs
end Go.Sl
namespace Go.Proofs.YtpabnmeponmonaaGreatDoor
theorem afx {G H:Prop}{α:Type}(lay:α->List Value)(y0:α)(xs:List α)(i:Nat)(s:Nat)(hs:∀a,(lay a).length=s)(k:H)(h:EP lay y0 xs i s->im H->G:=by
 intro hs kk;refine go ?_;refine WO.dec rfl ?_
 apply WD.VM hs;exact rfl;exact rfl;exact rfl;exact rfl;exact rfl;exact rfl;exact aD;exact rfl;exact pick;exact lens;exact om;exact keeps;exact kk.out):G:=h ⟨hs⟩ ⟨k⟩
section
variable (T:TypeId)(fr:Nat×Nat)(p:Nat)(qs:List Nat)(t pool:Nat)(tp:Tp)(pr:Bool)(n:Nat)(ls:List (Option Lv))(no:Nat)(V:Chunk)(hV:iZ t pool tp pr n ls no V)(ok:dj tp pr n ls.length)(dq:n<=2048)(hall:∀x∈ls,x≠none)
variable (s al:Nat)(ra rd ae note:Nat)(g gt:Nat)(eV:1<=gt/\gt<=281474976710656)
include hV ok dq hall eV
end
section
variable (T:TypeId)(fr:Nat×Nat)(p:Nat)(qs:List Nat)(t pool:Nat)(tp:Tp)(pr:Bool)(n:Nat)(ls:List (Option Lv))(no:Nat)(V:Chunk)(hV:iZ t pool tp pr n ls no V)(ok:dj tp pr n ls.length)(dq:n<=2048)(hall:∀x∈ls,x≠none)
variable (s al:Nat)(ra rd ae note:Nat)
include hV ok dq hall
end
end Go.Proofs.YtpabnmeponmonaaGreatDoor
namespace Go.Sl
def ka (up:Pt->List Pt)(x:Pt):List Pt:=if x=ai then replicate 16 ai else up x
def fC (up:Pt->List Pt)(l:List Pt):List Pt:=l.flatMap (ka up)
structure RC (R:Rk)(ls:List (Option Lv))(pr:Bool)(n:Nat)(up:Pt->List Pt)(x:Pt):Prop where
 NN:Mf R ls pr n x (fL (up x))
 len:1<=(up x).length/\(up x).length<=16
 ok:∀y∈up x,fK y=0/\y.Ok
theorem MO {up:Pt->List Pt}{l:List Pt}{i:Nat}(h:i<l.length):fC up (l.take (i+1))=fC up (l.take i)++ka up l[i]:=by
 unfold fC
 rw [aK l h,flatMap_append,flatMap_singleton]
theorem rC {R:Rk}{ls:List (Option Lv)}{pr:Bool}{n:Nat}{up:Pt->List Pt}:∀ {l:List Pt},(∀x∈l,x≠ai->RC R ls pr n up x)->(fC up l).length<=16*l.length
 | [],_=>by simp [fC]
 | x :: r,h=>by
  have ih:=rC (l:=r) fun y hy=>h y (mem_cons_of_mem _ hy)
  have hx:(ka up x).length<=16:=by
   unfold ka
   split
   ·simp
   ·exact (h x (mem_cons_self ..) (by assumption)).len.2
  simp only [fC,flatMap_cons,length_append,length_cons] at *
  omega
structure s8 (R:Rk)(ls:List (Option Lv))(pr:Bool)(n:Nat)(up:Pt->List Pt)(x:Pt):Prop where
 top:x≠ai->RC R ls pr n up x
 jd:x≠ai->(up x).length<=4
 kW:x≠ai->∀y∈up x,y≠ai->RC R ls pr n up y
def ml (up:Pt->List Pt)(s:fv):Ob:=if s.root=ai then ⟨s.used,s.size,s.root,[],[],[],true⟩ else ⟨s.used,s.size,s.root,fC up (up s.root),up s.root++[s.root],[],true⟩
end Go.Sl
namespace Go.Proofs.YtpabnmeponmonaaGreatDoor
theorem afy:(Builtin.zeroCells (Value.agg #[.int .i64 0,.int .i64 0,.int .i64 0,.int .u64 0,.int .i64 0,.int .u64 0,.int .u64 0,.int .u64 0,.int .u64 0]).cells 16).toList=(replicate 16 ai).flatMap Pt.lay:=by kernel_rfl
section
variable (T:TypeId)(fr:Nat×Nat)(p:Nat)(qs:List Nat)(t pool:Nat)(tp:Tp)(pr:Bool)(n:Nat)(ls:List (Option Lv))(no:Nat)(V:Chunk)(hV:iZ t pool tp pr n ls no V)(ok:dj tp pr n ls.length)(R:Rk)(C:Chunk)(hC:bj p qs R C)(ho:dE qs R n ls)(hall:∀x∈ls,x≠none)(db:R.off=false)
include hV ok hC ho hall db
theorem VT (up:Pt->List Pt)(l:List Pt)(hl:l.length<=16)(h:∀x∈l,x≠ai->RC R ls pr n up x)(O:Chunk)(ad:Option Addr)(c:Nat)(hO:Rd O 9 (.slice ad l.length c) l.length (aR l)) :
  Ct 146 [ptr t,.slice ad l.length c] [gK T fr,C,V,O] fun u Bs=>∃bz c' D,u = .tuple #[.slice bz (fC up l).length c',.int .i64 0]/\aC D 121 9 (.slice bz (fC up l).length c') (fC up l).length (aR (fC up l))/\Bs=[D,gK T fr,C,V,O]:=by
 have xg:=fun i=>rC (R:=R) (ls:=ls) (pr:=pr) (n:=n) (up:=up) (l:=l.take i) fun x hx=>h x (mem_of_mem_take hx)
 refine st func146 fun w0 => ?_
 refine gl [0,12,13] (fun ((i,v6,_):Nat×Value×Chunk)=>[(14,.int .i64 i),(6,v6)]) (fun (_,_,D)=>[D]) (fun (i,v6,D)=>i<=l.length/\(∃ad c,v6 = .slice ad (fC up (l.take i)).length c)/\aC D 121 9 v6 (fC up (l.take i)).length (aR (fC up (l.take i)))) (fun (i,_)=>l.length - i) (0,.slice none 0 0,[]) ⟨by omega,⟨none,0,rfl⟩,aC.nil _ _⟩ ?_
 rintro ⟨i,v6,D⟩ ⟨hi,⟨G5,c6,rfl⟩,hD⟩
 have hb:=xg i
 rw [length_take] at hb
 refine gi ?_ ?_ <;> intro br
 ·have bh:i<l.length:=oZ
  obtain ⟨g,off,rfl⟩:=hO.addr oZ
  obtain ⟨x,hx⟩:∃x,x=l[i]:=⟨_,rfl⟩
  have hs:=av (lay:=Pt.lay) (s:=9) (fun _=>rfl) l i x (by rw [hx];simp)
  have bB:fC up (l.take (i+1))=fC up (l.take i)++ka up x:=by rw [MO bh,<-hx]
  refine ga ?_;intro b8
  refine gi ?_ ?_ <;> intro hz
  ·have HH:x=ai:=(Pt.ext_iff x ai).2 (by simpa [ai] using hz)
   have zR:ka up x=replicate 16 ai:=if_pos HH
   rw [zR] at bB
   refine gpn ?_;intro tT c7 D7 hD7
   have jK:(fC up (l.take (i+1))).length=(fC up (l.take i)).length+16:=by rw [bB];simp
   refine gn ?_
   exact ⟨(i+1,_,D7),⟨by omega,⟨tT,c7,by rw [jK]⟩,by rw [jK,bB,aR,flatMap_append,<-afy];exact hD7⟩,sOZ,ar,_,aa⟩
  ·have HH:x≠ai:=fun e=>by rw [e] at hz;simp [ai] at hz
   have hu:=h x (by rw [hx];exact getElem_mem _) HH
   have zR:ka up x=up x:=if_neg HH
   rw [zR] at bB
   have hlen:=hu.len
   have qd:=QK T fr p qs t pool tp pr n ls no V hV ok R C hC ho hall db x _ hu.NN
   refine gc qd ?_
   rintro _ _ ⟨adO,O',rfl,hO',rfl⟩
   obtain ⟨k,hk⟩:∃k,k=(up x).length:=⟨_,rfl⟩
   have Kw:(fL (up x)).length=64*k:=by rw [iP,hk]
   rw [Kw] at hO' ⊢
   refine gc (PA O' adO _ _ k (up x) hk.symm rfl hO' (Nat.le_refl _) oZ hu.ok) ?_
   rintro _ _ ⟨NG,c9,D9,rfl,Gq,rfl⟩
   refine gp ?_;intro tT c7 D7 hD7
   have jK:(fC up (l.take (i+1))).length=(fC up (l.take i)).length+k:=by rw [bB,length_append,hk]
   refine gn ?_
   exact ⟨(i+1,_,D7),⟨by omega,⟨tT,c7,by rw [jK]⟩,by rw [jK,bB];simpa [aR] using hD7⟩,sOZ,ar,_,aa⟩
 ·obtain rfl:i=l.length:=oZ
  rw [take_length] at hD ⊢
  refine gz ?_
  exact fin ⟨G5,c6,D,rfl,hD,rfl⟩ aa
theorem RD (up:Pt->List Pt)(s:fv)(h:s8 R ls pr n up s.root) :
  Ct 78 [ptr t,s.agg] [gK T fr,C,V] fun u Bs=>∃a A,XU a (ml up s) A/\u = .tuple #[ptr a,.int .i64 0]/\Bs=[A,gK T fr,C,V]:=by
 have hlc:=fun l hl hh O ad c hO=>VT T fr p qs t pool tp pr n ls no V hV ok R C hC ho hall db up l hl hh O ad c hO
 obtain ⟨us,sz,x⟩:=s
 simp only at h
 refine st func78 fun w0 => ?_
 refine ga ?_;intro b3
 refine vY .i64 ?_;intro r6 C6 h6
 refine ga ?_;intro a6
 refine gi ?_ ?_ <;> intro hz
 ·have HH:x=ai:=(Pt.ext_iff x ai).2 (by simpa [ai] using hz)
  have e:ml up ⟨us,sz,x⟩=⟨us,sz,x,[],[],[],true⟩:=if_pos HH
  rw [e]
  refine gz ?_
  exact fin ⟨a6,_,⟨none,0,[],none,0,[],r6,[],C6,[],aC.nil _ _,aC.nil _ _,h6,rfl,rfl⟩,rfl,rfl⟩ aa
 ·have HH:x≠ai:=fun e=>by rw [e] at hz;simp [ai] at hz
  have e:ml up ⟨us,sz,x⟩=⟨us,sz,x,fC up (up x),up x++[x],[],true⟩:=if_neg HH
  have hu:=h.top HH
  have hf:=h.jd HH
  have zR:=h.kW HH
  have uk:fC up [x]=up x:=by simp [fC,ka,HH]
  have jK:(fC up (up x)).length<=64:=by have:=rC (l:=up x) zR;omega
  rw [e]
  refine gm ?_;intro b24
  have hc1:=hlc [x] (by simp) (fun y hy hy0=>by rw [mem_singleton.1 hy];exact hu) [(b24,ax x.lay 121)] (some ⟨b24,0,none⟩) 1 (by simpa [aR] using ay (xs:=x.lay) (by rw [Pt.ak]) (fun u hu=>Ft [x] u (by simpa [aR] using hu)) (by simp) _)
  rw [uk] at hc1
  refine gc hc1 ?_
  rintro _ _ ⟨adU,cU,DU,rfl,hDU,rfl⟩
  have XG:=hlc (up x) oZ zR DU adU cU hDU.rd
  refine aav [[(b3,ax (⟨us,sz,x⟩:fv).lay 146)]] (aB.cons (0,0) (aB.cons (1,0) (aB.cons (3,0) (aB.cons (4,0) (aB.fork 2 (aB.yh [(5,1),(6,1),(7,0),(8,0),(9,3)]) 5 (aB.yh [(2,1),(6,1),(7,0),(8,0),(9,3)])))))) ?_
  refine gk ?_ ?_
  case' refine_1 =>
   refine gc (eG DU adU _ cU _ hDU.rd oZ) ?_
   rintro _ _ ⟨adC,cC,DC,rfl,hDC,rfl⟩
   refine gm ?_;intro b36
  case' refine_2 =>
   refine gm ?_;intro b36
   refine gc (eG DU adU _ cU _ hDU.rd oZ) ?_
   rintro _ _ ⟨adC,cC,DC,rfl,hDC,rfl⟩
  all_goals
   refine gp ?_;intro eb cI DI hDI
   refine gc XG ?_
   rintro _ _ ⟨jM,cP,DP,rfl,hDP,rfl⟩
   refine gz ?_
   have bh:(up x++[x]).length=(up x).length+1:=by simp
   exact fin ⟨a6,_,⟨jM,cP,DP,eb,cI,DI,r6,[],C6,[],hDP,by rw [bh];simpa [aR,Pt.lay] using hDI,h6,rfl,rfl⟩,rfl,rfl⟩ (by simp only [bh];exact aa)
end
end Go.Proofs.YtpabnmeponmonaaGreatDoor
namespace Go.Sl
def gR (up:Pt->List Pt)(root:Pt):Ob:=ml up ⟨false,8064,root⟩
def NO (n:Nat)(ls:List (Option Lv))(no:Nat)(u:Ub)(R:Rk):Rk:=(((dG ls 22528 R no 0 (bp R ls)).1.run (eA n ls u)).run (de ls))
theorem eX (up:Pt->List Pt)(s:fv):(ml up s).size=s.size/\(ml up s).root=s.root/\(ml up s).used=s.used/\(ml up s).fresh=[]/\(ml up s).clean=true:=by unfold ml;split <;> exact ⟨rfl,rfl,rfl,rfl,rfl⟩
theorem s8.len {R:Rk}{ls:List (Option Lv)}{pr:Bool}{n:Nat}{up:Pt->List Pt}{s:fv}(h:s8 R ls pr n up s.root):(ml up s).aA.length<=64/\(ml up s).index.length<=5:=by
 unfold ml
 split
 ·exact ⟨by simp,by simp⟩
 ·rename_i hx
  have h1:=rC (l:=up s.root) (h.kW hx)
  have h2:=h.jd hx
  exact ⟨sOZ,by simp only [length_append,length_cons,length_nil];omega⟩
theorem xx (rd:Pt->List UInt8)(o:Ob)(hs:o.size=8064):∀i,i<=8->((List.range i).flatMap (o.gB rd)).length=min (i*1024) 8064
 | 0,_=>rfl
 | i+1,h=>by
  rw [range_succ,flatMap_append,length_append,xx rd o hs i oZ,flatMap_singleton,Ob.gB,ec,hs,aV]
  omega
end Go.Sl
namespace Go.Proofs.YtpabnmeponmonaaGreatDoor
section
variable (T:TypeId)(fr:Nat×Nat)(p:Nat)(qs:List Nat)(t pool:Nat)(tp:Tp)(pr:Bool)(n:Nat)(ls:List (Option Lv))(no:Nat)(V:Chunk)(hV:iZ t pool tp pr n ls no V)(ok:dj tp pr n ls.length)(R:Rk)(C:Chunk)(hC:bj p qs R C)(ho:dE qs R n ls)(hall:∀x∈ls,x≠none)(db:R.off=false)
variable (s:Nat)(vA:Value)(ra rd ae note:Nat)
include hV ok hC ho hall db
theorem RG (CD:Chunk)(hD:Mp rd .i64 [] CD)(up:Pt->List Pt)(root:Pt)(h:s8 R ls pr n up root)(dJ:Pt->List UInt8)(hl:∀x∈(gR up root).aA,x≠ai->Mf R ls pr n x (dJ x))(SL:List fv)(VU:SL.length=112)(hSo:∀s∈SL,s.Ok)(Ib:(List.range 8).flatMap ((gR up root).gB dJ)=fM SL) :
  Ct 77 [ptr s,root.agg] [[(s,bU t vA ra rd ae note)],gK T fr,C,V,CD] fun u Bs=>∃ad c D v CD' DP,u = .tuple #[.slice ad 112 c,.int .i64 0]/\aC D 146 11 (.slice ad 112 c) 112 (SL.flatMap fv.lay)/\Mp rd .i64 [(0,v)] CD'/\QI v (bL ((gR up root).aA++(gR up root).index)) DP/\Bs=[D,[(s,bU t vA ra rd ae note)],gK T fr,C,V,CD',DP]:=by
 have hld:=RD T fr p qs t pool tp pr n ls no V hV ok R C hC ho hall db up ⟨false,8064,root⟩ h
 have yt:=s8.len (s:=⟨false,8064,root⟩) h
 have bu:=(eX up ⟨false,8064,root⟩).1
 have pv:=(eX up ⟨false,8064,root⟩).2.2.2.1
 unfold gR at hl Ib ⊢
 obtain ⟨mo,MP⟩:∃mo,mo=ml up ⟨false,8064,root⟩:=⟨_,rfl⟩
 rw [<-MP] at hld yt bu pv hl Ib ⊢
 have eD:=fun a A hA i hi=>rb T fr p qs t pool tp pr n ls no V hV ok R C hC ho hall db s vA ra rd ae note a mo (by rw [bu];simp only;omega) A hA i hi dJ (fun x hx=>hl x (mem_of_getElem? hx)) (fun e he=>by rw [pv] at he;cases he)
 have hbs:=xx dJ mo bu
 have hb8:=hbs 8 (Nat.le_refl _)
 clear MP
 refine st func77 fun w0 => ?_
 refine ga ?_;intro b3
 refine gd [0,4,8,12,16,20,27,30,34,38,42,46] ?_
 refine gc hld ?_
 rintro _ _ ⟨a,A,hA,rfl,rfl⟩
 have eD:=fun i hi=>eD a A hA i hi
 have eo:=hA
 obtain ⟨jM,cP,DP,eb,cI,DI,r,LF,CF,VF,hP,hI,hM,hF,rfl⟩:=eo
 refine gs ?_
 refine rQ [[(s,bU t vA ra rd ae note)]] [0,4,8,12,16,21,27] ?_
 refine gc (uK a mo jM cP DP eb cI DI r hP hI oZ oZ) ?_
 rintro _ _ ⟨j7,cq,Dq,rfl,hDq,rfl⟩
 refine gu ?_
 intro CD' eJ
 rw [show mo.size=8064 from bu] at eD ⊢
 refine gl [0,6,38] (fun ((i,v8,_):Nat×Value×Chunk)=>[(39,.int .i64 i),(8,v8)]) (fun (_,_,E)=>[E]) (fun (i,v8,E)=>i<=8/\(∃ad c,v8 = .slice ad (min (i*1024) 8064) c)/\aC E 5 1 v8 (min (i*1024) 8064) (au ((List.range i).flatMap (mo.gB dJ)))) (fun (i,_)=>8 - i) (0,.slice none 0 0,[]) ⟨by omega,⟨none,0,rfl⟩,aC.nil _ _⟩ ?_
 rintro ⟨i,v8,E⟩ ⟨hi,⟨ze,c8,rfl⟩,hE⟩
 refine gi ?_ ?_ <;> intro br
 ·have HM:=eD i oZ
  have Hc:=hbs (i+1) oZ
  have aat:au ((List.range i).flatMap (mo.gB dJ))++au (mo.gB dJ i)=au ((List.range (i+1)).flatMap (mo.gB dJ)):=by rw [<-aG,range_succ,flatMap_append,flatMap_singleton]
  have dP:(mo.gB dJ i).length=aV 8064 i:=by rw [Ob.gB,ec,bu]
  have XW:min (i*1024) 8064+aV 8064 i=min ((i+1)*1024) 8064:=by unfold aV;omega
  have Uz:aV 8064 i<=1024:=by unfold aV;omega
  generalize aV 8064 i=L at *
  refine gc HM ?_
  rintro _ _ ⟨g,rfl,rfl⟩
  refine gs ?_
  have hRg:Rd [(g,ax (au (mo.gB dJ i)) 5)] 1 (.slice (some ⟨g,0,none⟩) L L) L (au (mo.gB dJ i)):=ay (by rw [aq,dP,Nat.mul_one]) (aP _) oZ _
  refine gp ?_;intro NG c9 E9 hE9
  rw [aat] at hE9
  rw [XW] at hE9 ⊢
  refine gn ?_
  exact ⟨(i+1,_,E9),⟨by omega,⟨NG,c9,rfl⟩,hE9⟩,sOZ,ar,_,aa⟩
 ·obtain rfl:i=8:=oZ
  rw [Ib] at hE
  refine gc (Uy E ze 8064 c8 112 SL VU rfl hE.rd (by have:=hE.eH;omega) oZ hSo) ?_
  rintro _ _ ⟨NG,c9,D9,rfl,Gq,rfl⟩
  refine gz ?_
  exact fin ⟨NG,c9,D9,_,CD',Dq,rfl,Gq,eJ,hDq,rfl⟩ aa
end
section
variable (T:TypeId)(fr:Nat×Nat)(p:Nat)(qs:List Nat)(t pool:Nat)(tp:Tp)(pr:Bool)(n:Nat)(ls:List (Option Lv))(no:Nat)(V:Chunk)(hV:iZ t pool tp pr n ls no V)(ok:dj tp pr n ls.length)(R:Rk)(C:Chunk)(hC:bj p qs R C)(ho:dE qs R n ls)(hall:∀x∈ls,x≠none)(db:R.on)
include hV ok hC ho hall db
theorem VV (u:Ub)(hu:wq u=0)(huo:u.Ok)(py:u.pool=pool)(gf:1<=no/\no+22528<=281474976710656)(hw:R.ws.length+200000<=900000000000)(hS:∀k,(xp R ls k).length=88)(RH:(dG ls 22528 R no 0 (bp R ls)).1.on)(ho1:dE qs (dG ls 22528 R no 0 (bp R ls)).1 n ls)(Te:(dG ls 22528 R no 0 (bp R ls)).1.ws.length+100<=900000000000) :
  Ct 80 [ptr t,u.agg] [gK T fr,C,V] fun v Bs=>v = .int .i64 0/\∃C' V',bj p qs (NO n ls no u R) C'/\iZ t pool tp pr n ls (dG ls 22528 R no 0 (bp R ls)).2 V'/\Bs=[gK T fr,C',V']:=by
 have yn:=Mv T fr p qs t pool tp pr n ls no V hV ok hall R C hC ho 0 22528 oZ hS
 have hGl:=HU hS
 rw [drop_zero,take_of_length_le oZ] at yn
 have hlw:=fun D ad c hD hc=>HT T fr p qs t pool tp pr n ls no V hV ok hall R C hC ho 0 (bp R ls) 22528 hGl oZ gf oZ D ad c hD hc
 rw [if_neg (fun h=>by rw [RH.2] at h;exact absurd h.2 dZ)] at hlw
 unfold NO
 generalize dG ls 22528 R no 0 (bp R ls)=X at *
 obtain ⟨R1,Gs⟩:=X
 simp only at *
 have Bh:=fun C1 V1 pF hV1=>Bi T fr p qs t pool tp pr n ls Gs V1 hV1 ok R1 C1 pF ho1 hall u hu huo py oZ
 have ju:=fun C1 V1 pF (hV1:iZ t pool tp pr n ls Gs V1)=>qX (p:=p) (qs:=qs) (t:=t) (V:=V1) (hV:=hV1) (ok:=ok) (R:=R1.run (eA n ls u)) (C:=C1) (hC:=pF) (ho:=ho1.run _) (hall:=hall)
 rw [BD RH] at Bh
 rw [BD (RH.run _)] at ju
 refine st func80 fun w0 => ?_
 refine ga ?_;intro b3
 refine gc yn ?_
 rintro _ _ (⟨hx, -⟩ | ⟨-,ad,c,D,rfl,hD,rfl⟩)
 ·rw [db.2] at hx;cases hx
 refine gc (hlw D ad c hD.rd (by have:=hD.eH;omega)) ?_
 rintro _ _ ⟨C1,V1,rfl,pF,hV1,rfl⟩
 refine gc (Bh C1 V1 pF hV1) ?_
 rintro _ _ ⟨C2,rfl,yq,rfl⟩
 refine gc (ju C2 V1 yq hV1) ?_
 rintro _ _ ⟨C3,rfl,kP,rfl⟩
 refine gz ?_
 exact fin ⟨rfl,C3,V1,kP,hV1,rfl⟩ aa
end
end Go.Proofs.YtpabnmeponmonaaGreatDoor
namespace Go.Sl
def eg (o:Ob):List Pt:=bL (o.aA++o.index)
def yg (up:Pt->List Pt):Nat->List fv->List (Int×Ob)
 | _,[]=>[]
 | i,s :: r=>(if s.used then [(((i+1:Nat):Int),ml up s)] else [])++yg up (i+1) r
theorem Fz (up:Pt->List Pt)(s:fv):∀(i:Nat) (l:List fv),yg up i (l++[s])=yg up i l++(if s.used then [(((i+l.length+1:Nat):Int),ml up s)] else [])
 | i,[]=>by simp [yg]
 | i,x :: r=>by
  rw [cons_append,yg,yg,Fz up s (i+1) r,append_assoc,length_cons,show i+1+r.length+1=i+(r.length+1)+1 by omega]
theorem rD {up:Pt->List Pt}:∀ {i:Nat} {l:List fv} {e:Int×Ob},e∈yg up i l->∃(j:Nat) (s:fv),l[j]? = some s/\s.used=true/\e=(((i+j+1:Nat):Int),ml up s)
 | i,[],e,h=>by cases h
 | i,x :: r,e,h=>by
  rw [yg,List.mem_append] at h
  rcases h with h | h
  ·split at h
   ·exact ⟨0,x,rfl,by assumption,mem_singleton.1 h⟩
   ·cases h
  ·obtain ⟨j,s,h1,h2,h3⟩:=rD h
   exact ⟨j+1,s,h1,h2,by rw [h3];congr 3;omega⟩
def BH (up:Pt->List Pt)(mo:Ob)(l:List fv):List (Int×List Pt):=(0,eg mo) :: (yg up 0 l).map fun e=>(e.1,eg e.2)
theorem fo.snoc {β:Type}{R:Value->β->Chunk->Prop}{q:Int}{v:Value}{x:β}{D:Chunk}(hD:R v x D):∀ {L:List (Int×Value)} {M:List (Int×β)} {V:Chunk},fo R L M V->fo R (L++[(q,v)]) (M++[(q,x)]) (V++D)
 | [],[],V,h=>by
  obtain rfl:V=[]:=h
  exact ⟨rfl,D,[],hD,rfl,by simp⟩
 | [],_ :: _,_,h=>h.elim
 | _ :: _,[],_,h=>h.elim
 | (p,u) :: L,(j,y) :: M,V,h=>by
  obtain ⟨rfl,E,V',hE,hV,rfl⟩:=h
  exact ⟨rfl,E,V'++D,hE,hV.snoc hD,by rw [append_assoc]⟩
structure OpP (z m:Nat)(od:List (Int×List Pt)):Prop where
 top:∀x∈aY od,x.top=0
 at_:∀x∈aY od,x.at_=(aM m x:Nat)*(m:Int)
 bd:∀x∈aY od,(aM m x+1:Int)*(m:Int)<=(z:Int)
 inj:∀x∈aY od,∀y∈aY od,aM m x=aM m y->x=y
end Go.Sl
namespace Go.Proofs.YtpabnmeponmonaaGreatDoor
section
variable (T:TypeId)(fr:Nat×Nat)(p:Nat)(qs:List Nat)(t pool:Nat)(tp:Tp)(pr:Bool)(n:Nat)(ls:List (Option Lv))(no:Nat)(V:Chunk)(hV:iZ t pool tp pr n ls no V)(ok:dj tp pr n ls.length)(dq:n<=2048)(R:Rk)(C:Chunk)(hC:bj p qs R C)(ho:dE qs R n ls)(hall:∀x∈ls,x≠none)(db:R.on)
include hV ok dq hC ho hall db
theorem VW (ring:Nat->Nat->Nat->Option Ub)(hr:∀i x,ls[i]? = some (some x)->iD R n x.i (ring i))(U:List Ub)(hU:U.length<=19)(Hk:∀i k j u,ring i k j=some u->u∈U)(u:Ub)(QF:∀x,mD ring pool ls.length x->x=u)(yD:u.ae≠0)
  (up:Pt->List Pt) (J6:s8 R ls pr n up u.root) (dJ:Pt->List UInt8) (hl:∀x∈(gR up u.root).aA,x≠ai->Mf R ls pr n x (dJ x)) (SL:List fv) (VU:SL.length=112) (hSo:∀s∈SL,s.Ok) (Ib:(List.range 8).flatMap ((gR up u.root).gB dJ)=fM SL) (JT:∀s∈SL,s.used=true->s8 R ls pr n up s.root)
  (m:Nat) (hm:m=aL pr ls.length 1024) (mI:OpP (bD pr ls.length n) m (BH up (gR up u.root) SL))
  (hu:wq u=0) (huo:u.Ok) (py:u.pool=pool) (gf:1<=no/\no+22528<=281474976710656) (hw:R.ws.length+200000<=900000000000) (hS:∀k,(xp R ls k).length=88) (RH:(dG ls 22528 R no 0 (bp R ls)).1.on) (ho1:dE qs (dG ls 22528 R no 0 (bp R ls)).1 n ls) (Te:(dG ls 22528 R no 0 (bp R ls)).1.ws.length+100<=900000000000) :
  Ct 27 [ptr t] [gK T fr,C,V] fun v Bs=>∃s al ra rd ks,v = .tuple #[ptr s,.int .i64 0]/\ks.Nodup/\(∀k,k∈ks↔∃x∈aY (BH up (gR up u.root) SL),aM m x=k) /\
   ∃C' V' LA CA VA Ld CD VD Al,bj p qs (NO n ls no u R) C'/\iZ t pool tp pr n ls (dG ls 22528 R no 0 (bp R ls)).2 V'/\Mp ra .i64 LA CA/\fo yd LA (yg up 0 SL) VA/\Mp rd .i64 Ld CD/\fo QI Ld (BH up (gR up u.root) SL) VD/\qg al ((bD pr ls.length n:Nat):Int) (m:Nat) ⟨ks,[]⟩ Al/\Bs=[[(s,bU t (ptr al) ra rd u.ae u.note)],gK T fr,C',V',CA,VA,CD,VD,Al]:=by
 subst hm
 have hky:=X9
 have hz:=ir pr ok.hw ⟨ok.hn.1,dq⟩
 have hmb:=tG pr ok.hw ok.hp
 have hbs:=Bj T fr p qs t pool tp pr n ls no V hV ok hall R C hC ho db.2 ring hr U hU Hk
 have htb:=fun s vA ra rd ae note CD hD=>RG T fr p qs t pool tp pr n ls no V hV ok R C hC ho hall db.2 s vA ra rd ae note CD hD up u.root J6 dJ hl SL VU hSo Ib
 have hld:=fun (s:fv) hs=>RD T fr p qs t pool tp pr n ls no V hV ok R C hC ho hall db.2 up s hs
 have bu:=Bn t pool tp pr n ls no V hV ok dq
 have rS:=VV T fr p qs t pool tp pr n ls no V hV ok R C hC ho hall db u hu huo py gf hw hS RH ho1 Te
 obtain ⟨mo,MP⟩:∃mo,mo=gR up u.root:=⟨_,rfl⟩
 have afz:(eg mo).length<=200:=by
  have h1:=s8.len (s:=⟨false,8064,u.root⟩) J6
  have h2:=lO (mo.aA++mo.index)
  rw [length_append] at h2
  rw [MP] at h2 ⊢
  unfold gR eg at *
  omega
 rw [<-MP] at mI htb ⊢
 obtain ⟨m,hm⟩:∃m,m=aL pr ls.length 1024:=⟨_,rfl⟩
 rw [<-hm] at mI hmb ⊢
 refine st func27 fun w0 => ?_
 refine gc hbs ?_
 rintro _ _ ⟨⟨x,hx,rfl⟩,rfl⟩
 rw [QF x hx,if_neg yD]
 clear hx x hbs
 refine ga ?_;intro b4
 refine vY .i64 ?_;intro ra CA hA
 refine vY .i64 ?_;intro rd CD hD
 refine ga ?_;intro s
 refine gc (htb s (.pointer none) ra rd u.ae u.note CD hD) ?_
 rintro _ _ ⟨dy,cS,DS,v0,CD1,DP0,rfl,RI,Cp,hP0,rfl⟩
 have aaJ:=RI.rd
 obtain ⟨gS,oS,rfl⟩:=aaJ.addr oZ
 refine gl [0,4,6,46,47] (fun ((i,_):Nat×List (Int×Value)×List (Int×Value)×Chunk×Chunk×Chunk×Chunk)=>[(48,.int .i64 i)]) (fun (_,_,_,CA,VA,CD,VD)=>[CA,VA,CD,VD]) (fun (i,LA,Ld,CA,VA,CD,VD)=>i<=112/\Mp ra .i64 LA CA/\fo yd LA (yg up 0 (SL.take i)) VA/\Mp rd .i64 Ld CD/\fo QI Ld (BH up mo (SL.take i)) VD) (fun (i,_)=>112 - i) (0,[],[(0,v0)],CA,[],CD1,DP0) ⟨by omega,hA,rfl,Cp,⟨rfl,DP0,[],hP0,rfl,by simp⟩⟩ ?_
 clear hA hD Cp hP0
 rintro ⟨i,LA,Ld,CA,VA,CD,VD⟩ ⟨hi,hA,JR,hD,VX⟩
 refine gi ?_ ?_ <;> intro br
 ·have bh:i<SL.length:=oZ
  obtain ⟨sl,fS⟩:∃sl,sl=SL[i]:=⟨_,rfl⟩
  have hs:=av (lay:=fv.lay) (s:=11) fv.ak SL i sl (by rw [fS];simp)
  have tH:SL.take (i+1)=SL.take i++[sl]:=by rw [aK SL bh,<-fS]
  have bB:=Fz up sl 0 (SL.take i)
  rw [show 0+(SL.take i).length+1=i+1 by rw [length_take];omega] at bB
  refine ga ?_;intro b9
  refine gi ?_ ?_ <;> intro IM
  ·have zR:sl.used=false:=by simpa using IM
   rw [if_neg (by rw [zR];simp),append_nil] at bB
   refine gn ?_
   exact ⟨(i+1,LA,Ld,CA,VA,CD,VD),⟨by omega,hA,by rw [tH,bB];exact JR,hD,by rw [BH,tH,bB];exact VX⟩,sOZ,ar,_,aa⟩
  ·have zR:sl.used=true:=by simpa using IM
   have tL:=JT sl (by rw [fS];exact getElem_mem _) zR
   rw [if_pos zR] at bB
   refine gc (hld sl tL) ?_
   rintro _ _ ⟨a,A,CB,rfl,rfl⟩
   have yt:=s8.len (s:=sl) tL
   obtain ⟨ob,afA⟩:∃ob,ob=ml up sl:=⟨_,rfl⟩
   rw [<-afA] at CB yt bB
   have VY:=CB
   obtain ⟨jM,cP,DP,eb,cI,DX,r,LF,CF,VF,hP,Br,hM,hF,rfl⟩:=VY
   refine gs ?_
   refine rQ [[(s,bU t (.pointer none) ra rd u.ae u.note)]] [0,4,8,12,16,20,24,28,32,36,40,44,48,52,57,61,64,69,73,76,83] ?_
   refine gc (uK a ob jM cP DP eb cI DX r hP Br oZ oZ) ?_
   rintro _ _ ⟨j7,cq,Dq,rfl,hDq,rfl⟩
   have hkA:∀e∈yg up 0 (SL.take i),e.1<((i+1:Nat):Int)/\1<=e.1:=fun e he=>by
    obtain ⟨j,s',h1, -,rfl⟩:=rD he
    have:=(List.getElem?_eq_some_iff.1 h1).1
    rw [length_take] at this
    simp only;omega
   have hnA:kx LA ((i+1:Nat):Int)=none:=by
    show aJ LA _=none
    refine kD ?_
    rw [<-JR.keys]
    intro h
    obtain ⟨e,he,e2⟩:=mem_map.1 h
    have:=(hkA e he).1
    omega
   have hnD:kx Ld ((i+1:Nat):Int)=none:=by
    show aJ Ld _=none
    refine kD ?_
    rw [<-VX.keys,BH,map_cons,map_map,List.mem_cons]
    rintro (h | h)
    ·simp only at h;omega
    ·obtain ⟨e,he,e2⟩:=mem_map.1 h
     have:=(hkA e he).1
     simp only [Function.comp] at e2
     omega
   refine gme ?_;intro c1 CA1 mV
   refine gms ?_;intro CA2 l4
   refine gme ?_;intro c2 CD2 Dy
   refine gms ?_;intro CD3 ZI
   refine gn ?_
   refine ⟨(i+1,_,_,CA2,_,CD3,_),⟨by omega,l4,by rw [tH,bB];exact JR.snoc ⟨a,rfl,CB⟩,ZI,by rw [BH,tH,bB,map_append,<-cons_append];exact VX.snoc hDq⟩,sOZ,ar,_,aa⟩
 ·obtain rfl:i=112:=oZ
  rw [take_of_length_le oZ] at JR VX
  have hdn:((BH up mo SL).map (·.1)).Nodup:=by rw [VX.keys];exact hD.nodup
  have ny:∀e∈BH up mo SL,e.2.length<=200:=fun e he=>by
   rcases List.mem_cons.1 he with rfl | he
   ·exact afz
   ·obtain ⟨e',he',rfl⟩:=mem_map.1 he
    obtain ⟨j,s',h1,h2,rfl⟩:=rD he'
    have h3:=s8.len (s:=s') (JT s' (mem_of_getElem? h1) h2)
    have h4:=lO ((ml up s').aA++(ml up s').index)
    rw [length_append] at h4
    simp only [eg];omega
  obtain ⟨od,NP⟩:∃od,od=BH up mo SL:=⟨_,rfl⟩
  rw [<-NP] at VX hdn ny mI ⊢
  have hKn:∀K:List Pt,K.Nodup->(∀x∈K,x∈aY od)->(K.map (aM m)).Nodup/\(∀k∈K.map (aM m),(k+1:Int)*(m:Int)<=((bD pr ls.length n:Nat):Int))/\K.length<=1280:=fun K hK MQ=>by
   have h1:(K.map (aM m)).Nodup:=pairwise_map.2 (hK.imp_of_mem fun ha hb ey e=>ey (mI.inj _ (MQ _ ha) _ (MQ _ hb) e))
   have h2:∀k∈K.map (aM m),(k+1:Int)*(m:Int)<=((bD pr ls.length n:Nat):Int):=fun k hk=>by
    obtain ⟨x,hx,rfl⟩:=mem_map.1 hk
    exact mI.bd x (MQ x hx)
   refine ⟨h1,h2, ?_⟩
   have:=q8 1280 _ h1 fun k hk=>by
    have h3:=h2 k hk
    have h4:=Int.mul_le_mul_of_nonneg_left (show (8:Int)<=(m:Int) by omega) (show (0:Int)<=(k:Int)+1 by omega)
    omega
   rwa [length_map] at this
  have hK0:∀x∈aY od,x∈([]:List Pt)\/∃q∈Ld.map (·.1),∃l,aJ od q=some l/\x∈l:=fun x hx=>.inr (by
   obtain ⟨e,he,x6⟩:=mem_flatMap.1 hx
   exact ⟨e.1,by rw [<-VX.keys];exact mem_map_of_mem he,e.2,mj hdn he,x6⟩)
  refine vY .i64 ?_;intro Ya BI Tn
  refine gr ?_;intro it DI hI
  refine gl [0,4,6,12,90] (fun ((RJ,_):Value×List Pt×List (Int×Value)×Chunk×Chunk×Chunk)=>[(13,RJ)]) (fun (_,_,_,M7,DI,E)=>[CD,DI,M7,E]) (fun (RJ,K,rest,M7,DI,E)=>y8 rd it .i64 Ld rest CD DI/\Du Pt.lay Ya K M7/\(∃ad c,RJ = .slice ad K.length c)/\aC E 166 3 RJ K.length ((LW m (K.map (aM m))).flatMap Pl.lay)/\K.Nodup/\(∀x∈K,x∈aY od)/\∀x∈aY od,x∈K\/∃q∈rest.map (·.1),∃l,aJ od q=some l/\x∈l) (fun (_,_,rest,_)=>rest.length) (.slice none 0 0,[],Ld,BI,DI,[]) ⟨hI,Du.start Tn,⟨none,0,rfl⟩,aC.nil _ _,nodup_nil,fun _ h=>(not_mem_nil h).elim,hK0⟩ ?_
  clear hI Tn hK0
  rintro ⟨RJ,K,rest,M7,DI,E⟩ ⟨hI,hK,⟨aaK,c13,rfl⟩,hE,Yb,MQ,VK⟩
  refine OT ?_ ?_
  ·rintro rfl
   have hD:=hI.mp
   obtain ⟨k1,k2,k3⟩:=hKn K Yb MQ
   have han:=fun Dz RK cz RL=>HC ((bD pr ls.length n:Nat):Int) (m:Nat) oZ oZ Dz RK cz RL (K.map (aM m)) k1 k2 E aaK c13 (by rw [length_map];exact hE.rd)
   rw [length_map] at han
   refine gc bu ?_
   rintro _ _ ⟨RK,cz,Dz,rfl,RL,rfl⟩
   refine gc (han Dz RK cz RL.rd) ?_
   rintro _ _ ⟨al,Al,rfl,hAl,rfl⟩
   refine gc rS ?_
   rintro _ _ ⟨rfl,C',V',bF,Xu,rfl⟩
   refine gz ?_
   exact fin ⟨s,al,ra,rd,K.map (aM m),rfl,k1,fun k=>⟨fun h=>by
    obtain ⟨x,hx,e⟩:=mem_map.1 h
    exact ⟨x,MQ x hx,e⟩,fun ⟨x,hx,e⟩=>by
    rcases VK x hx with h | ⟨q,hq, -⟩
    ·exact mem_map.2 ⟨x,h,e⟩
    ·cases hq⟩,C',V',LA,CA,VA,Ld,CD,VD,Al,bF,Xu,hA,JR,hD,VX,hAl,rfl⟩ aa
  ·rintro X q v Y HB rfl iy rO hE'
   rcases VX.look q with ⟨h1, -⟩ | ⟨v',l,V1,D,V2,h1,h2,rfl,zt, -, -⟩
   ·rw [iy] at h1;cases h1
   ·obtain rfl:v=v':=by rw [iy] at h1;exact Option.some.inj h1
    have zt:aC D 121 9 v l.length (aR l):=zt
    have jW:=zt.rd
    have gH:l.length<=200:=ny _ (aI h2)
    obtain ⟨pO,cl,rfl⟩:=jW.slice
    refine OU ?_
    refine gs ?_
    refine gl [0,4,6,12,90,95,96] (fun ((i,RJ,_):Nat×Value×List Pt×Chunk×Chunk)=>[(97,.int .i64 i),(13,RJ)]) (fun (_,_,_,M7,E)=>[M7,E]) (fun (i,RJ,K2,M7,E)=>i<=l.length/\Du Pt.lay Ya K2 M7/\(∃ad c,RJ = .slice ad K2.length c)/\aC E 166 3 RJ K2.length ((LW m (K2.map (aM m))).flatMap Pl.lay)/\K2.Nodup/\(∀x∈K2,x∈aY od)/\(∀x∈K,x∈K2)/\∀x∈l.take i,x∈K2) (fun (i,_)=>l.length - i) (0,.slice aaK K.length c13,K,M7,E) ⟨by omega,hK,⟨aaK,c13,rfl⟩,hE,Yb,MQ,fun _ h=>h,fun x h=>by rw [take_zero] at h;cases h⟩ ?_
    clear hK hE Yb MQ
    rintro ⟨i,RJ,K2,M7,E⟩ ⟨hi,hK2,⟨acV,c14,rfl⟩,hE,Yb,MQ,Rw,jK⟩
    refine gi ?_ ?_ <;> intro qI
    ·have bh:i<l.length:=oZ
     obtain ⟨g,off,rfl⟩:=jW.addr oZ
     obtain ⟨x,hx⟩:∃x,x=l[i]:=⟨_,rfl⟩
     have hs:=av (lay:=Pt.lay) (s:=9) (fun _=>rfl) l i x (by rw [hx];simp)
     have Cq:x∈aY od:=by rw [hx];exact xw h2 _ (getElem_mem bh)
     have mU:=JL s t pool tp pr n ls no V hV ok dq (.pointer none) ra rd u.ae u.note x (mI.top x Cq)
     rw [<-hm,mI.at_ x Cq] at mU
     refine ga ?_;intro b17
     refine glu Pt.lay x ?_
     refine gi ?_ ?_ <;> intro jH
     ·have jH:x∉K2:=by simpa using jH
      have kI:=(hKn K2 Yb MQ).2.2
      refine guu Pt.lay x ?_
      rw [if_neg jH]
      intro M8 hK3
      refine gc mU ?_
      rintro _ _ ⟨rfl,rfl⟩
      refine gm ?_;intro ahe
      refine gp ?_;intro afB c15 E15 afC
      have acW:(K2++[x]).length=K2.length+1:=by simp
      refine gn ?_
      refine ⟨(i+1,_,K2++[x],M8,E15),⟨by omega,hK3,⟨afB,c15,by rw [acW]⟩,by rw [acW];simpa [LW,Pl.lay,lz] using afC, ?_,fun y hy => ?_,fun y hy=>mem_append_left _ (Rw y hy),fun y hy => ?_⟩,sOZ,ar,_,aa⟩
      ·rw [nodup_append]
       exact ⟨Yb,by simp,fun y hy z hz e=>by rw [mem_singleton.1 hz] at e;exact jH (e ▸ hy)⟩
      ·rcases List.mem_append.1 hy with hy | hy
       ·exact MQ y hy
       ·rw [mem_singleton.1 hy];exact Cq
      ·rw [aK l bh] at hy
       rcases List.mem_append.1 hy with hy | hy
       ·exact mem_append_left _ (jK y hy)
       ·rw [mem_singleton.1 hy,<-hx];simp
     ·have jH:x∈K2:=by simpa using jH
      refine gn ?_
      refine ⟨(i+1,_,K2,M7,E),⟨by omega,hK2,⟨acV,c14,rfl⟩,hE,Yb,MQ,Rw,fun y hy => ?_⟩,sOZ,ar,_,aa⟩
      rw [aK l bh] at hy
      rcases List.mem_append.1 hy with hy | hy
      ·exact jK y hy
      ·rw [mem_singleton.1 hy,<-hx];exact jH
    ·obtain rfl:i=l.length:=oZ
     rw [take_length] at jK
     refine gn ?_
     refine ⟨(_,K2,X++Y,M7,HB,E),⟨rO,hK2,⟨acV,c14,rfl⟩,hE,Yb,MQ,fun x hx => ?_⟩,by simp only [length_append,length_cons];omega,ar,_,aa⟩
     rcases VK x hx with h | ⟨q',nW,l',jI,Gh⟩
     ·exact .inl (Rw x h)
     ·rw [map_append,map_cons,List.mem_append,List.mem_cons] at nW
      rcases nW with nW | rfl | nW
      ·exact .inr ⟨q',by rw [map_append];exact mem_append_left _ nW,l',jI,Gh⟩
      ·rw [h2] at jI;cases jI;exact .inl (jK x Gh)
      ·exact .inr ⟨q',by rw [map_append];exact mem_append_right _ nW,l',jI,Gh⟩
end
section
variable (T:TypeId)(fr:Nat×Nat)(p:Nat)(qs:List Nat)(t pool:Nat)(tp:Tp)(pr:Bool)(n:Nat)(ls:List (Option Lv))(no:Nat)(V:Chunk)(hV:iZ t pool tp pr n ls no V)(ok:dj tp pr n ls.length)(dq:n<=2048)(R:Rk)(C:Chunk)(hC:bj p qs R C)(ho:dE qs R n ls)(hall:∀x∈ls,x≠none)(db:R.on)
include hV ok dq hC ho hall db
theorem VZ (hq:bD pr ls.length n / aL pr ls.length 1024 / 4<10) :
  Ct 17 [ptr t] [gK T fr,C,V] fun v Bs=>v = .tuple #[.pointer none,.int .i64 3]/\Bs=[gK T fr,C,V]:=by
 have _:=hC
 have _:=ho
 have _:=hall
 have _:=db
 have hz:=ir pr ok.hw ⟨ok.hn.1,dq⟩
 have hmb:=tG pr ok.hw ok.hp
 have bu:=Bn t pool tp pr n ls no V hV ok dq
 have fS:=fun s vA ra rd=>Bo s t pool tp pr n ls no V hV ok dq vA ra rd 0 0
 have han:=fun Dz RK cz RL=>HC ((bD pr ls.length n:Nat):Int) (aL pr ls.length 1024:Nat) oZ oZ Dz RK cz RL [] nodup_nil (fun _ h=>by cases h) [] none 0 (Rd.nil [] 3)
 generalize bD pr ls.length n / aL pr ls.length 1024=q at *
 refine st func17 fun w0 => ?_
 refine gc bu ?_
 rintro _ _ ⟨RK,cz,Dz,rfl,RL,rfl⟩
 refine gc (han Dz RK cz RL.rd) ?_
 rintro _ _ ⟨al,Al,rfl,hAl,rfl⟩
 refine vY .i64 ?_;intro ra CA hA
 refine vY .i64 ?_;intro rd CD hD
 refine ga ?_;intro s
 refine gc (fS s (ptr al) ra rd) ?_
 rintro _ _ ⟨rfl,rfl⟩
 refine gz ?_
 exact fin ⟨rfl,rfl⟩ aa
theorem aaL (hq:10<=bD pr ls.length n / aL pr ls.length 1024 / 4)(hr:∀(i:Nat) (x:Lv),ls[i]? = some (some x)->iD R n x.i fun _ _=>none)(tB:pool<18446744073709551616)(hw:R.ws.length+80<=900000000000) :
  Ct 17 [ptr t] [gK T fr,C,V] fun v Bs=>∃s al ra rd,v = .tuple #[ptr s,.int .i64 0]/\∃C' CA CD Al,bj p qs ((R.run (eA n ls ⟨pool,1,0,ai⟩)).run (de ls)) C'/\Mp ra .i64 [] CA/\Mp rd .i64 [] CD /\
   qg al ((bD pr ls.length n:Nat):Int) (aL pr ls.length 1024:Nat) ⟨[],[]⟩ Al/\Bs=[[(s,bU t (ptr al) ra rd 1 0)],gK T fr,C',V,CA,CD,Al]:=by
 have hz:=ir pr ok.hw ⟨ok.hn.1,dq⟩
 have hmb:=tG pr ok.hw ok.hp
 have bu:=Bn t pool tp pr n ls no V hV ok dq
 have fS:=fun s vA ra rd=>Bo s t pool tp pr n ls no V hV ok dq vA ra rd 0 0
 have hbs:=Bj T fr p qs t pool tp pr n ls no V hV ok hall R C hC ho db.2 (fun _ _ _=>none) hr [] (by simp) (fun _ _ _ _ h=>by cases h)
 have Ck:=fun s vA ra rd=>Rv T fr p qs t pool tp pr n ls no V hV ok hall R C hC ho db s vA ra rd 0 0 ai rfl (by refine ⟨?_, ?_, ?_, ?_, ?_, ?_, ?_, ?_, ?_⟩ <;> decide) 0 tB oZ oZ (Nat.zero_le _) hw
 have han:=fun Dz RK cz RL=>HC ((bD pr ls.length n:Nat):Int) (aL pr ls.length 1024:Nat) oZ oZ Dz RK cz RL [] nodup_nil (fun _ h=>by cases h) [] none 0 (Rd.nil [] 3)
 generalize hqd:bD pr ls.length n / aL pr ls.length 1024=q at *
 have hq2:q<=10240:=by rw [<-hqd];exact Nat.le_trans (Nat.div_le_self _ _) hz.2
 refine st func17 fun w0 => ?_
 refine gc bu ?_
 rintro _ _ ⟨RK,cz,Dz,rfl,RL,rfl⟩
 refine gc (han Dz RK cz RL.rd) ?_
 rintro _ _ ⟨al,Al,rfl,hAl,rfl⟩
 refine vY .i64 ?_;intro ra CA hA
 refine vY .i64 ?_;intro rd CD hD
 refine ga ?_;intro s
 refine gc (fS s (ptr al) ra rd) ?_
 rintro _ _ ⟨rfl,rfl⟩
 refine gc hbs ?_
 rintro _ _ ⟨⟨x,hx,rfl⟩,rfl⟩
 obtain rfl:x=jT:=by
  rcases hx with ⟨h, -⟩ | ⟨⟨i,k,j, -, -, -,h, -⟩, -⟩
  ·exact h
  ·cases h
 refine ga ?_;intro b7
 refine gc (Ck s (ptr al) ra rd) ?_
 rintro _ _ ⟨rfl,C',bF,rfl⟩
 refine gz ?_
 exact fin ⟨s,al,ra,rd,rfl,C',CA,CD,Al,bF,hA,hD,hAl,rfl⟩ aa
end
theorem MR (s ba t:Nat)(vA:Value)(ra rd ae note:Nat)(H1 H2 H3 H4 H5 H6 H7 H8:Chunk)(Q:List Chunk->Prop)(hQ:∀Bs,Q Bs->∃a b c d e f g h i,Bs=[a,b,c,d,e,f,g,h,i])
  (h:Ct 23 [ptr s,.int .u64 ba] [[(s,bU t vA ra rd ae note)],H1,H2,H3,H4,H5,H6,H7,H8] fun u Bs=>u = .int .i64 0/\Q Bs) :
  Ct 8 [ptr s,.int .u64 ba] [[(s,bU t vA ra rd ae note)],H1,H2,H3,H4,H5,H6,H7,H8] fun u Bs=>u = .int .i64 0/\Q Bs:=by
 refine st func8 fun w0 => ?_
 refine gc h ?_
 rintro _ Bs ⟨rfl,hB⟩
 obtain ⟨a,b,c,d,e,f,g,h,i,rfl⟩:=hQ Bs hB
 refine gz ?_
 exact fin ⟨rfl,hB⟩ aa
section
variable (T:TypeId)(fr:Nat×Nat)(p:Nat)(qs:List Nat)(t pool:Nat)(tp:Tp)(pr:Bool)(n:Nat)(ls:List (Option Lv))(no:Nat)(V:Chunk)(hV:iZ t pool tp pr n ls no V)(ok:dj tp pr n ls.length)(dq:n<=2048)(R:Rk)(C:Chunk)(hC:bj p qs R C)(ho:dE qs R n ls)(hall:∀x∈ls,x≠none)(db:R.off=false)
variable (s:Nat)(vA:Value)(ra rd ae note:Nat)(LA:List (Int×Value))(CA:Chunk)(hA:Mp ra .i64 LA CA)(all:List (Int×Ob))(VA:Chunk)(hG:fo yd LA all VA)(bu:∀e∈all,e.2.size<=65536)(hlen:all.length<=112)
include hV ok dq hA hG bu hlen hC ho hall db
theorem RN (k:Int)(hk:1<=k/\k<=112)(a m:Nat)(Mk:a+m<=65536)(O:Chunk)(mJ:Option Addr)(cb:Nat)(b:List UInt8)(dP:b.length=m)(hO:Rd O 1 (.slice mJ m cb) m (au b))(ME:m<=cb)
  (dJ:Pt->List UInt8) (QL:∀x∈(Ob.at all k).aA,x≠ai->Mf R ls pr n x (dJ x)) (pv:∀e∈(Ob.at all k).fresh,e.2.length<=1024) (hf:px all k (max (Ob.at all k).size (a+m)) (bD pr ls.length n / aL pr ls.length 1024 / 4 - 10)=true) :
  Ct 48 [ptr s,.int .i64 k,.int .i64 a,.slice mJ m cb] [[(s,bU t vA ra rd ae note)],gK T fr,C,V,CA,VA,O] fun u Bs=>u = .int .i64 0/\∃L' C' V' cf,(∀q,aJ cf q=if df a m q then some (j8 ((Ob.at all k).byte dJ) a b (max (Ob.at all k).size (a+m)) q.toNat) else aJ (Ob.at all k).fresh q) /\
   Mp ra .i64 L' C'/\fo yd L' (eu all k { Ob.at all k with size:=max (Ob.at all k).size (a+m),fresh:=cf,clean:=false }) V'/\Bs=[[(s,bU t vA ra rd ae note)],gK T fr,C,V,C',V',O]:=by
 have hh:=j1 k
 rw [decide_eq_true hk] at hh
 have bJ:=sV s t pool tp pr n ls no V hV ok dq vA ra rd ae note LA CA hA all VA hG bu hlen k
 rcases hG.look k with ⟨h1,h2,bR⟩ | ⟨v',o,V1,D,V2,h1,h2,rfl,⟨ao,rfl,CB⟩, -,bR⟩
 ·have ic:Ob.at all k=bG:=by unfold Ob.at;rw [h2];rfl
  rw [ic] at hf QL pv ⊢
  have hso:bG.size<=65536:=by simp only [bG];omega
  have bJ:=bJ (max bG.size (a+m)) oZ
  rw [hf] at bJ
  obtain ⟨size,xk⟩:∃z,z=max bG.size (a+m):=⟨_,rfl⟩
  rw [<-xk] at bJ ⊢
  obtain ⟨grown,Gr⟩:∃g:Ob,g={ bG with size:=size,index:=[],clean:=false }:=⟨_,rfl⟩
  have RO:∀j,grown.byte dJ j=bG.byte dJ j:=fun j=>by rw [Gr];rfl
  have aaM:grown.byte dJ=bG.byte dJ:=funext RO
  refine st func48 fun w0 => ?_
  refine gc hh ?_
  rintro _ _ ⟨rfl,rfl⟩
  refine vY .i64 ?_;intro r CF hM
  refine ga ?_;intro ao
  refine go ?_
  rw [show max (0:Int) ((a+m:Nat):Int)=(size:Int) by rw [xk];simp only [bG];omega]
  refine gc bJ ?_
  rintro _ _ ⟨rfl,rfl⟩
  refine gd [0,4,8,12,16,20,24,28,32,36,40,44,48,55,58] ?_
  refine ga ?_;intro g11
  refine vY .i64 ?_;intro Ya BI Tn
  have eD:=fun A hA i hi=>rb T fr p qs t pool tp pr n ls no V hV ok R C hC ho hall db s vA ra rd ae note g11 grown (by rw [Gr];simp only;omega) A hA i hi dJ (fun x hx=>QL x (mem_of_getElem? (show bG.aA[i]? = some x by rw [Gr] at hx;exact hx))) (fun e he=>pv e (by rw [Gr] at he;exact he))
  have eD:=eD ([(g11,yx bG.used size bG.root (.slice none bG.aA.length 0) (.slice none 0 0) r false)]++(([]:Chunk)++([]++(CF++([]:Chunk))))) (by rw [Gr];exact ⟨none,0,([]:Chunk),none,0,[],r,[],CF,([]:Chunk),aC.nil _ _,aC.nil _ _,hM,rfl,rfl⟩)
  have hsg:∀i,grown.gB dJ i=(List.range' (i*1024) (aV size i)).map (bG.byte dJ):=fun i=>by rw [Ob.ou,Ob.mO,aaM,Gr]
  refine gl [0,1,2,3,9,10,11,12] (fun ((f,_):Nat×List (Int×Value)×List (Int×List UInt8)×Chunk×Chunk)=>[(13,.int .i64 f)]) (fun (_,_,_,BI,yE)=>[BI,yE]) (fun (f,RP,BJ,BI,yE)=>a<=f/\f<=a+m/\(f<a+m->f=a\/f % 1024=0)/\Mp Ya .i64 RP BI/\fo mf RP BJ yE/\∀q,aJ BJ q=if df a (f - a) q then some (j8 (bG.byte dJ) a b size q.toNat) else none) (fun (f,_)=>a+m - f) (a,[],[],BI,[]) ⟨by omega,by omega,fun _=>.inl rfl,Tn,rfl,fun q=>by rw [if_neg (by simp [df])];rfl⟩ ?_
  clear Tn
  rintro ⟨f,RP,BJ,BI,yE⟩ ⟨hf1,yb,V3,Tn,Ic,rE⟩
  refine gi ?_ ?_ <;> intro br
  ·have br:f<a+m:=oZ
   have V3:=V3 br
   obtain ⟨i,hi⟩:∃i,i=f / 1024:=⟨_,rfl⟩
   have hii:i<=100:=oZ
   have eD:=eD i hii
   rw [hsg] at eD
   obtain ⟨to,hto⟩:∃z,z=min ((i+1)*1024) (a+m):=⟨_,rfl⟩
   have hgs:grown.size=size:=by rw [Gr]
   rw [hgs] at eD
   obtain ⟨L,hL⟩:∃L,L=aV size i:=⟨_,rfl⟩
   rw [<-hL] at eD
   have Mn:L=min 1024 (size - i*1024):=hL
   obtain ⟨d,hd⟩:∃d,d=f - i*1024:=⟨_,rfl⟩
   have Ek:=JQ (old:=bG.byte dJ) (at_:=a) (b:=b) (size:=size) (i:=i) (f:=f) (d:=d) hL oZ hf1 oZ oZ oZ hd oZ
   have qc:((au b).drop ((f - a)*1)).take ((to - a - (f - a))*1)=au ((b.drop (f - a)).take (to - f)):=by
    rw [Nat.mul_one,Nat.mul_one,bo,aQ,show to - a - (f - a)=to - f by omega]
   have afD:to - a - (f - a)=to - f:=oZ
   have Vv:(au ((List.range' (i*1024) L).map (bG.byte dJ))).take d++(au ((b.drop (f - a)).take (to - f))).take (min (to - f) (L - d))++(au ((List.range' (i*1024) L).map (bG.byte dJ))).drop (d+min (to - f) (L - d))=au (j8 (bG.byte dJ) a b size i):=by
    rw [show min (to - f) (L - d)=to - f by omega,<-Ek,dP,<-hto,aG,aG,aQ,aQ,bo,take_take,Nat.min_self]
   have mh:=zy (a:=a) hi V3
   rcases Ic.look i with ⟨k1,k2,k3⟩ | ⟨v9,x9,W1,D9,W2,k1,k2, -⟩
   ·refine go ?_
    rw [<-hi,show min (((i+1)*1024:Nat):Int) ((a+m:Nat):Int)=(to:Int) by omega]
    refine gc eD ?_
    rintro _ _ ⟨g16,rfl,rfl⟩
    refine gs ?_
    have hrl:(List.range' (i*1024) L).length=L:=by simp
    subst hd
    refine gv ?_
    refine gw ?_;intro ad2 kY
    refine gy ?_
    refine gu ?_;intro aaN aaO
    have LX:mf (.slice (some ⟨g16,0,none⟩) L L) (j8 (bG.byte dJ) a b size i) [(g16,ax (au (j8 (bG.byte dJ) a b size i)) 5)]:=by
     unfold mf
     rw [iV,<-hL]
     exact aau (by rw [iV,hL]) oZ
    refine gn ?_
    refine ⟨(to,_,_,aaN,yE++[(g16,ax (au (j8 (bG.byte dJ) a b size i)) 5)]),⟨by omega,by omega,fun h=>by omega,aaO,k3 _ _ _ LX,fun q => ?_⟩,sOZ,ar,_,aa⟩
    rw [iI,rE,xn (g:=to) hi hf1 oZ oZ V3]
    by_cases c:(i:Int)=q
    ·subst c;simp
    ·have:¬q=(i:Int):=fun h=>c h.symm
     simp [c,this]
   ·rw [rE,mh] at k2;simp at k2
  ·obtain rfl:f=a+m:=oZ
   rw [show a+m - a=m by omega] at rE
   refine gr ?_
   intro it DI hI
   refine gl [0,1,9,149] (fun (_:List (Int×Value)×List (Int×List UInt8)×Chunk×Chunk×List (Int×Value)×List (Int×List UInt8)×Chunk×Chunk)=>[]) (fun (_,_,CF,VF,_,_,yE,DI)=>[CF,VF,yE,DI,BI]) (fun (LF,cf,CF,VF,rest,Mr,yE,DI)=>Mp r .i64 LF CF/\fo mf LF cf VF/\y8 Ya it .i64 RP rest BI DI/\fo mf rest Mr yE/\(∀q x,aJ Mr q=some x->aJ BJ q=some x)/\∀q,aJ cf q=if (aJ Mr q).isSome then aJ bG.fresh q else (match aJ BJ q with | some x=>some x | none=>aJ bG.fresh q)) (fun (_,_,_,_,rest,_)=>rest.length) ([],bG.fresh,CF,([]:Chunk),RP,BJ,yE,DI) ⟨hM,rfl,hI,Ic,fun _ _ h=>h,fun q=>by cases aJ BJ q <;> rfl⟩ ?_
   clear hI Ic eD
   rintro ⟨E7,cf,xf,Bu,rest,Mr,afE,HB⟩ ⟨V4,Mq,hI,hGr,jv,RQ⟩
   refine OT ?_ ?_
   ·rintro rfl
    have hMr:Mr=[]:=by
     cases Mr with
     | nil=>rfl
     | cons e _=>exact hGr.elim
    subst hMr
    have oK:∀q,aJ cf q=if df a m q then some (j8 (bG.byte dJ) a b size q.toNat) else aJ bG.fresh q:=fun q=>by
     rw [RQ,rE]
     by_cases c:df a m q=true
     ·rw [if_pos c,if_pos c];rfl
     ·rw [if_neg c,if_neg c];rfl
    refine gu ?_;intro CA' eo
    refine gz ?_
    exact fin ⟨rfl,_,CA',_,cf,oK,eo,bR (ptr ao) { bG with size:=size,fresh:=cf,clean:=false } ([(ao,yx bG.used size bG.root (.slice none 0 0) (.slice none 0 0) r false)]++([]++([]++(xf++Bu)))) ⟨ao,rfl,_,_,[],_,_,[],r,E7,xf,Bu,aC.nil _ _,aC.nil _ _,V4,Mq,rfl⟩,rfl⟩ aa
   ·rintro X q v Y yA rfl iy rO hE
    have eF:=hI.nodup.1
    rw [<-hGr.keys] at eF
    obtain ⟨MA,x,MB,U1,D9,U2,rfl,rfl,Gq,RS⟩:=hGr.pull
    have aaP:=jv q x (fu eF (by simp))
    have HS:aC D9 5 1 v x.length (au x):=Gq
    have FA:∀p x',aJ (MA++MB) p=some x'->aJ BJ p=some x':=fun p x' h=>by
     rw [rf eF] at h
     split at h
     ·cases h
     ·exact jv p x' h
    have rR:∀p,aJ (eu cf q x) p=if (aJ (MA++MB) p).isSome then aJ bG.fresh p else (match aJ BJ p with | some x=>some x | none=>aJ bG.fresh p):=fun p=>by
     rw [iI,rf eF]
     by_cases c:p=q
     ·subst c;rw [if_pos rfl,if_pos rfl,aaP];rfl
     ·rw [if_neg (fun h=>c h.symm),if_neg c,RQ]
    have iK:(X++Y).length<(X++(q,v) :: Y).length:=by simp only [length_append,length_cons];omega
    refine OU ?_
    rcases Mq.look q with ⟨-, -,Ie⟩ | ⟨v9,x9,W1,D0,W2, -, -,rfl, -, -,Ie⟩
    ·refine gs ?_
     refine gu ?_;intro Q2 hM2
     refine gn ?_
     exact ⟨(_,_,Q2,Bu++D9,X++Y,MA++MB,U1++U2,yA),⟨hM2,Ie v x D9 Gq,rO,RS,FA,rR⟩,iK,ar,_,aa⟩
    ·refine gs ?_
     refine gu ?_;intro Q2 hM2
     refine gn ?_
     exact ⟨(_,_,Q2,W1++(D9++W2),X++Y,MA++MB,U1++U2,yA),⟨hM2,Ie v x D9 Gq,rO,RS,FA,rR⟩,iK,ar,_,aa⟩
 ·have ic:Ob.at all k=o:=by unfold Ob.at;rw [h2];rfl
  rw [ic] at hf QL pv ⊢
  have hso:o.size<=65536:=bu _ (aI h2)
  have bJ:=bJ (max o.size (a+m)) oZ
  rw [hf] at bJ
  obtain ⟨size,xk⟩:∃z,z=max o.size (a+m):=⟨_,rfl⟩
  rw [<-xk] at bJ ⊢
  obtain ⟨grown,Gr⟩:∃g:Ob,g={ o with size:=size,index:=[],clean:=false }:=⟨_,rfl⟩
  have RO:∀j,grown.byte dJ j=o.byte dJ j:=fun j=>by rw [Gr];rfl
  have aaM:grown.byte dJ=o.byte dJ:=funext RO
  obtain ⟨jM,cP,DP,eb,cI,DX,r,LF,CF,VF,hP,Br,hM,hF,rfl⟩:=CB
  refine st func48 fun w0 => ?_
  refine gs ?_
  refine gc hh ?_
  rintro _ _ ⟨rfl,rfl⟩
  refine go ?_
  rw [show max (o.size:Int) ((a+m:Nat):Int)=(size:Int) by rw [xk];omega]
  refine gc bJ ?_
  rintro _ _ ⟨rfl,rfl⟩
  refine gs ?_
  refine gd [0,4,8,12,16,20,24,28,32,36,40,44,48,55,58] ?_
  refine ga ?_;intro g11
  refine vY .i64 ?_;intro Ya BI Tn
  have eD:=fun A hA i hi=>rb T fr p qs t pool tp pr n ls no V hV ok R C hC ho hall db s vA ra rd ae note g11 grown (by rw [Gr];simp only;omega) A hA i hi dJ (fun x hx=>QL x (mem_of_getElem? (show o.aA[i]? = some x by rw [Gr] at hx;exact hx))) (fun e he=>pv e (by rw [Gr] at he;exact he))
  have eD:=eD ([(g11,yx o.used size o.root (.slice jM o.aA.length cP) (.slice none 0 0) r false)]++(DP++([]++(CF++VF)))) (by rw [Gr];exact ⟨jM,cP,DP,none,0,[],r,LF,CF,VF,hP,aC.nil _ _,hM,hF,rfl⟩)
  have hsg:∀i,grown.gB dJ i=(List.range' (i*1024) (aV size i)).map (o.byte dJ):=fun i=>by rw [Ob.ou,Ob.mO,aaM,Gr]
  refine gl [0,1,2,3,9,10,11,12] (fun ((f,_):Nat×List (Int×Value)×List (Int×List UInt8)×Chunk×Chunk)=>[(13,.int .i64 f)]) (fun (_,_,_,BI,yE)=>[BI,yE]) (fun (f,RP,BJ,BI,yE)=>a<=f/\f<=a+m/\(f<a+m->f=a\/f % 1024=0)/\Mp Ya .i64 RP BI/\fo mf RP BJ yE/\∀q,aJ BJ q=if df a (f - a) q then some (j8 (o.byte dJ) a b size q.toNat) else none) (fun (f,_)=>a+m - f) (a,[],[],BI,[]) ⟨by omega,by omega,fun _=>.inl rfl,Tn,rfl,fun q=>by rw [if_neg (by simp [df])];rfl⟩ ?_
  clear Tn
  rintro ⟨f,RP,BJ,BI,yE⟩ ⟨hf1,yb,V3,Tn,Ic,rE⟩
  refine gi ?_ ?_ <;> intro br
  ·have br:f<a+m:=oZ
   have V3:=V3 br
   obtain ⟨i,hi⟩:∃i,i=f / 1024:=⟨_,rfl⟩
   have hii:i<=100:=oZ
   have eD:=eD i hii
   rw [hsg] at eD
   obtain ⟨to,hto⟩:∃z,z=min ((i+1)*1024) (a+m):=⟨_,rfl⟩
   have hgs:grown.size=size:=by rw [Gr]
   rw [hgs] at eD
   obtain ⟨L,hL⟩:∃L,L=aV size i:=⟨_,rfl⟩
   rw [<-hL] at eD
   have Mn:L=min 1024 (size - i*1024):=hL
   obtain ⟨d,hd⟩:∃d,d=f - i*1024:=⟨_,rfl⟩
   have Ek:=JQ (old:=o.byte dJ) (at_:=a) (b:=b) (size:=size) (i:=i) (f:=f) (d:=d) hL oZ hf1 oZ oZ oZ hd oZ
   have qc:((au b).drop ((f - a)*1)).take ((to - a - (f - a))*1)=au ((b.drop (f - a)).take (to - f)):=by
    rw [Nat.mul_one,Nat.mul_one,bo,aQ,show to - a - (f - a)=to - f by omega]
   have afD:to - a - (f - a)=to - f:=oZ
   have Vv:(au ((List.range' (i*1024) L).map (o.byte dJ))).take d++(au ((b.drop (f - a)).take (to - f))).take (min (to - f) (L - d))++(au ((List.range' (i*1024) L).map (o.byte dJ))).drop (d+min (to - f) (L - d))=au (j8 (o.byte dJ) a b size i):=by
    rw [show min (to - f) (L - d)=to - f by omega,<-Ek,dP,<-hto,aG,aG,aQ,aQ,bo,take_take,Nat.min_self]
   have mh:=zy (a:=a) hi V3
   rcases Ic.look i with ⟨k1,k2,k3⟩ | ⟨v9,x9,W1,D9,W2,k1,k2, -⟩
   ·refine go ?_
    rw [<-hi,show min (((i+1)*1024:Nat):Int) ((a+m:Nat):Int)=(to:Int) by omega]
    refine gc eD ?_
    rintro _ _ ⟨g16,rfl,rfl⟩
    refine gs ?_
    have hrl:(List.range' (i*1024) L).length=L:=by simp
    subst hd
    refine gv ?_
    refine gw ?_;intro ad2 kY
    refine gy ?_
    refine gu ?_;intro aaN aaO
    have LX:mf (.slice (some ⟨g16,0,none⟩) L L) (j8 (o.byte dJ) a b size i) [(g16,ax (au (j8 (o.byte dJ) a b size i)) 5)]:=by
     unfold mf
     rw [iV,<-hL]
     exact aau (by rw [iV,hL]) oZ
    refine gn ?_
    refine ⟨(to,_,_,aaN,yE++[(g16,ax (au (j8 (o.byte dJ) a b size i)) 5)]),⟨by omega,by omega,fun h=>by omega,aaO,k3 _ _ _ LX,fun q => ?_⟩,sOZ,ar,_,aa⟩
    rw [iI,rE,xn (g:=to) hi hf1 oZ oZ V3]
    by_cases c:(i:Int)=q
    ·subst c;simp
    ·have:¬q=(i:Int):=fun h=>c h.symm
     simp [c,this]
   ·rw [rE,mh] at k2;simp at k2
  ·obtain rfl:f=a+m:=oZ
   rw [show a+m - a=m by omega] at rE
   refine gr ?_
   intro it DI hI
   refine gl [0,1,9,149] (fun (_:List (Int×Value)×List (Int×List UInt8)×Chunk×Chunk×List (Int×Value)×List (Int×List UInt8)×Chunk×Chunk)=>[]) (fun (_,_,CF,VF,_,_,yE,DI)=>[CF,VF,yE,DI,BI]) (fun (LF,cf,CF,VF,rest,Mr,yE,DI)=>Mp r .i64 LF CF/\fo mf LF cf VF/\y8 Ya it .i64 RP rest BI DI/\fo mf rest Mr yE/\(∀q x,aJ Mr q=some x->aJ BJ q=some x)/\∀q,aJ cf q=if (aJ Mr q).isSome then aJ o.fresh q else (match aJ BJ q with | some x=>some x | none=>aJ o.fresh q)) (fun (_,_,_,_,rest,_)=>rest.length) (LF,o.fresh,CF,VF,RP,BJ,yE,DI) ⟨hM,hF,hI,Ic,fun _ _ h=>h,fun q=>by cases aJ BJ q <;> rfl⟩ ?_
   clear hI Ic eD
   rintro ⟨E7,cf,xf,Bu,rest,Mr,afE,HB⟩ ⟨V4,Mq,hI,hGr,jv,RQ⟩
   refine OT ?_ ?_
   ·rintro rfl
    have hMr:Mr=[]:=by
     cases Mr with
     | nil=>rfl
     | cons e _=>exact hGr.elim
    subst hMr
    have oK:∀q,aJ cf q=if df a m q then some (j8 (o.byte dJ) a b size q.toNat) else aJ o.fresh q:=fun q=>by
     rw [RQ,rE]
     by_cases c:df a m q=true
     ·rw [if_pos c,if_pos c];rfl
     ·rw [if_neg c,if_neg c];rfl
    refine gu ?_;intro CA' eo
    refine gz ?_
    exact fin ⟨rfl,_,CA',_,cf,oK,eo,bR (ptr ao) { o with size:=size,fresh:=cf,clean:=false } ([(ao,yx o.used size o.root (.slice jM o.aA.length cP) (.slice eb o.index.length cI) r false)]++(DP++(DX++(xf++Bu)))) ⟨ao,rfl,_,_,DP,_,_,DX,r,E7,xf,Bu,hP,Br,V4,Mq,rfl⟩,rfl⟩ aa
   ·rintro X q v Y yA rfl iy rO hE
    have eF:=hI.nodup.1
    rw [<-hGr.keys] at eF
    obtain ⟨MA,x,MB,U1,D9,U2,rfl,rfl,Gq,RS⟩:=hGr.pull
    have aaP:=jv q x (fu eF (by simp))
    have HS:aC D9 5 1 v x.length (au x):=Gq
    have FA:∀p x',aJ (MA++MB) p=some x'->aJ BJ p=some x':=fun p x' h=>by
     rw [rf eF] at h
     split at h
     ·cases h
     ·exact jv p x' h
    have rR:∀p,aJ (eu cf q x) p=if (aJ (MA++MB) p).isSome then aJ o.fresh p else (match aJ BJ p with | some x=>some x | none=>aJ o.fresh p):=fun p=>by
     rw [iI,rf eF]
     by_cases c:p=q
     ·subst c;rw [if_pos rfl,if_pos rfl,aaP];rfl
     ·rw [if_neg (fun h=>c h.symm),if_neg c,RQ]
    have iK:(X++Y).length<(X++(q,v) :: Y).length:=by simp only [length_append,length_cons];omega
    refine OU ?_
    rcases Mq.look q with ⟨-, -,Ie⟩ | ⟨v9,x9,W1,D0,W2, -, -,rfl, -, -,Ie⟩
    ·refine gs ?_
     refine gu ?_;intro Q2 hM2
     refine gn ?_
     exact ⟨(_,_,Q2,Bu++D9,X++Y,MA++MB,U1++U2,yA),⟨hM2,Ie v x D9 Gq,rO,RS,FA,rR⟩,iK,ar,_,aa⟩
    ·refine gs ?_
     refine gu ?_;intro Q2 hM2
     refine gn ?_
     exact ⟨(_,_,Q2,W1++(D9++W2),X++Y,MA++MB,U1++U2,yA),⟨hM2,Ie v x D9 Gq,rO,RS,FA,rR⟩,iK,ar,_,aa⟩
end
end Go.Proofs.YtpabnmeponmonaaGreatDoor
