/-
  Texts put together (16).
-/
import Derived.Test.YtcfioaeamfappaaGreatDoorZTopFull15
namespace Go.Sl
def ej (o:Ob):List Pt:=bI (o.ay++o.index)
def xb (up:Pt->List Pt):Nat->List eW->List (Int×Ob)
 | _,[]=>[]
 | i,s :: r=>(if s.used then [(((i+1:Nat):Int),lH up s)] else [])++xb up (i+1) r
theorem Eo (up:Pt->List Pt)(s:eW):∀(i:Nat) (l:List eW),xb up i (l++[s])=xb up i l++(if s.used then [(((i+l.length+1:Nat):Int),lH up s)] else [])
 | i,[]=>by simp [xb]
 | i,x :: r=>by
  rw [List.cons_append,xb,xb,Eo up s (i+1) r,List.append_assoc,List.length_cons,show i+1+r.length+1=i+(r.length+1)+1 by omega]
theorem qi {up:Pt->List Pt}:∀ {i:Nat} {l:List eW} {e:Int×Ob},e∈xb up i l->∃(j:Nat) (s:eW),l[j]? = some s/\s.used=true/\e=(((i+j+1:Nat):Int),lH up s)
 | i,[],e,h=>by cases h
 | i,x :: r,e,h=>by
  rw [xb,List.mem_append] at h
  rcases h with h | h
  ·split at h
   ·exact ⟨0,x,rfl,by assumption,List.mem_singleton.1 h⟩
   ·cases h
  ·obtain ⟨j,s,h1,h2,h3⟩:=qi h
   exact ⟨j+1,s,h1,h2,by rw [h3];congr 3;omega⟩
def AD (up:Pt->List Pt)(mo:Ob)(l:List eW):List (Int×List Pt):=(0,ej mo) :: (xb up 0 l).map fun e=>(e.1,ej e.2)
theorem eT.snoc {β:Type}{R:Value->β->Chunk->Prop}{q:Int}{v:Value}{x:β}{D:Chunk}(hD:R v x D):∀ {L:List (Int×Value)} {M:List (Int×β)} {V:Chunk},eT R L M V->eT R (L++[(q,v)]) (M++[(q,x)]) (V++D)
 | [],[],V,h=>by
  obtain rfl:V=[]:=h
  exact ⟨rfl,D,[],hD,rfl,by simp⟩
 | [],_ :: _,_,h=>h.elim
 | _ :: _,[],_,h=>h.elim
 | (p,u) :: L,(j,y) :: M,V,h=>by
  obtain ⟨rfl,E,V',hE,hV,rfl⟩:=h
  exact ⟨rfl,E,V'++D,hE,hV.snoc hD,by rw [List.append_assoc]⟩
structure OpP (z m:Nat)(od:List (Int×List Pt)):Prop where
 top:∀x∈bc od,x.top=0
 at_:∀x∈bc od,x.at_=(aM m x:Nat)*(m:Int)
 bd:∀x∈bc od,(aM m x+1:Int)*(m:Int)<=(z:Int)
 inj:∀x∈bc od,∀y∈bc od,aM m x=aM m y->x=y
end Go.Sl
namespace Go.Proofs.YtcfioaeamfappaaGreatDoor
open Go.Sl
set_option maxRecDepth 10000
set_option maxHeartbeats 2000000
section
variable (T:TypeId)(fr:Nat×Nat)(p:Nat)(qs:List Nat)(t pool:Nat)(tp:Tp)(pr:Bool)(n:Nat)(ls:List (Option Lv))(no:Nat)(V:Chunk)(hV:jd t pool tp pr n ls no V)(ok:dE tp pr n ls.length)(dx:n<=2048)(R:Rk)(C:Chunk)(hC:br p qs R C)(ho:dI qs R n ls)(hall:∀x∈ls,x≠none)(bW:R.on)
include hV ok dx hC ho hall bW
theorem UD (ring:Nat->Nat->Nat->Option Ub)(hr:∀i x,ls[i]? = some (some x)->iL R n x.i (ring i))(U:List Ub)(hU:U.length<=19)(Ow:∀i k j u,ring i k j=some u->u∈U)(u:Ub)(O7:∀x,mI ring pool ls.length x->x=u)(Az:u.txg≠0)
  (up:Pt->List Pt) (I1:rM R ls pr n up u.root) (du:Pt->List UInt8) (hl:∀x∈(fX up u.root).ay,x≠ah->KC R ls pr n x (du x)) (SL:List eW) (WH:SL.length=112) (hSo:∀s∈SL,s.Ok) (Hc:(List.range 8).flatMap ((fX up u.root).fN du)=fH SL) (KZ:∀s∈SL,s.used=true->rM R ls pr n up s.root)
  (m:Nat) (hm:m=aN pr ls.length 1024) (nC:OpP (bD pr ls.length n) m (AD up (fX up u.root) SL))
  (hu:zC u=0) (huo:u.Ok) (nz:u.pool=pool) (eV:1<=no/\no+22528<=281474976710656) (hw:R.ws.length+200000<=900000000000) (hS:∀k,(tD R ls k).length=88) (Qp:(bP ls 22528 R no 0 (aX R ls)).1.on) (ZL:dI qs (bP ls 22528 R no 0 (aX R ls)).1 n ls) (Yq:(bP ls 22528 R no 0 (aX R ls)).1.ws.length+100<=900000000000) :
  Ct 24 [ptr t] [gK T fr,C,V] fun v Bs=>∃s al ra rd ks,v = .tuple #[ptr s,.int .i64 0]/\ks.Nodup/\(∀k,k∈ks↔∃x∈bc (AD up (fX up u.root) SL),aM m x=k) /\
   ∃C' V' LA CA VA Ld CD VD Al,br p qs (Qn n ls no u R) C'/\jd t pool tp pr n ls (bP ls 22528 R no 0 (aX R ls)).2 V'/\Mp ra .i64 LA CA/\eT w9 LA (xb up 0 SL) VA/\Mp rd .i64 Ld CD/\eT Pa Ld (AD up (fX up u.root) SL) VD/\oN al ((bD pr ls.length n:Nat):Int) (m:Nat) ⟨ks,[]⟩ Al/\Bs=[[(s,bS t (ptr al) ra rd u.txg u.note)],gK T fr,C',V',CA,VA,CD,VD,Al]:=by
 subst hm
 have hky:=WG
 have hz:=iA pr ok.hw ⟨ok.hn.1,dx⟩
 have Y9:=sv pr ok.hw ok.hp
 have ZK:=Ad T fr p qs t pool tp pr n ls no V hV ok hall R C hC ho bW.2 ring hr U hU Ow
 have htb:=fun s vA ra rd txg note CD hD=>Qo T fr p qs t pool tp pr n ls no V hV ok R C hC ho hall bW.2 s vA ra rd txg note CD hD up u.root I1 du hl SL WH hSo Hc
 have hld:=fun (s:eW) hs=>Qm T fr p qs t pool tp pr n ls no V hV ok R C hC ho hall bW.2 up s hs
 have bx:=Ag t pool tp pr n ls no V hV ok dx
 have qE:=UC T fr p qs t pool tp pr n ls no V hV ok R C hC ho hall bW u hu huo nz eV hw hS Qp ZL Yq
 obtain ⟨mo,KV⟩:∃mo,mo=fX up u.root:=⟨_,rfl⟩
 have aez:(ej mo).length<=200:=by
  have h1:=rM.len (s:=⟨false,8064,u.root⟩) I1
  have h2:=kV (mo.ay++mo.index)
  rw [List.length_append] at h2
  rw [KV] at h2 ⊢
  unfold fX ej at *
  omega
 rw [<-KV] at nC htb ⊢
 obtain ⟨m,hm⟩:∃m,m=aN pr ls.length 1024:=⟨_,rfl⟩
 rw [<-hm] at nC Y9 ⊢
 refine st Tryz.func24 fun w0 => ?_
 refine gc ZK ?_
 rintro _ _ ⟨⟨x,hx,rfl⟩,rfl⟩
 rw [O7 x hx,if_neg Az]
 clear hx x ZK
 refine ga ?_;intro b4
 refine uC .i64 ?_;intro ra CA hA
 refine uC .i64 ?_;intro rd CD hD
 refine ga ?_;intro s
 refine gc (htb s (.pointer none) ra rd u.txg u.note CD hD) ?_
 rintro _ _ ⟨bG,cS,DS,v0,CD1,DP0,rfl,Uk,A7,hP0,rfl⟩
 have ZJ:=Uk.rd
 obtain ⟨gS,oS,rfl⟩:=ZJ.addr oZ
 refine gl [0,4,6,46,47] (fun ((i,_):Nat×List (Int×Value)×List (Int×Value)×Chunk×Chunk×Chunk×Chunk)=>[(48,.int .i64 i)]) (fun (_,_,_,CA,VA,CD,VD)=>[CA,VA,CD,VD]) (fun (i,LA,Ld,CA,VA,CD,VD)=>i<=112/\Mp ra .i64 LA CA/\eT w9 LA (xb up 0 (SL.take i)) VA/\Mp rd .i64 Ld CD/\eT Pa Ld (AD up mo (SL.take i)) VD) (fun (i,_)=>112 - i) (0,[],[(0,v0)],CA,[],CD1,DP0) ⟨by omega,hA,rfl,A7,⟨rfl,DP0,[],hP0,rfl,by simp⟩⟩ ?_
 clear hA hD A7 hP0
 rintro ⟨i,LA,Ld,CA,VA,CD,VD⟩ ⟨hi,hA,IM,hD,UE⟩
 refine gi ?_ ?_ <;> intro bh
 ·have bo:i<SL.length:=by omega
  obtain ⟨sl,fM⟩:∃sl,sl=SL[i]:=⟨_,rfl⟩
  have hs:=ar (lay:=eW.lay) (s:=11) eW.aj SL i sl (by rw [fM];simp)
  have sw:SL.take (i+1)=SL.take i++[sl]:=by rw [aG SL bo,<-fM]
  have cu:=Eo up sl 0 (SL.take i)
  rw [show 0+(SL.take i).length+1=i+1 by rw [List.length_take];omega] at cu
  refine ga ?_;intro b9
  refine gi ?_ ?_ <;> intro MF
  ·have yO:sl.used=false:=by simpa using MF
   rw [if_neg (by rw [yO];simp),List.append_nil] at cu
   refine gn ?_
   exact ⟨(i+1,LA,Ld,CA,VA,CD,VD),⟨by omega,hA,by rw [sw,cu];exact IM,hD,by rw [AD,sw,cu];exact UE⟩,by simp only;omega,aq,_,aa⟩
  ·have yO:sl.used=true:=by simpa using MF
   have Bi:=KZ sl (by rw [fM];exact List.getElem_mem _) yO
   rw [if_pos yO] at cu
   refine gc (hld sl Bi) ?_
   rintro _ _ ⟨a,A,Bh,rfl,rfl⟩
   have xm:=rM.len (s:=sl) Bi
   obtain ⟨ob,aeA⟩:∃ob,ob=lH up sl:=⟨_,rfl⟩
   rw [<-aeA] at Bh xm cu
   have Ux:=Bh
   obtain ⟨je,cP,DP,dP,cI,DX,r,LF,CF,VF,hP,Ak,hM,hF,rfl⟩:=Ux
   refine gs ?_
   refine qC [[(s,bS t (.pointer none) ra rd u.txg u.note)]] [0,4,8,12,16,20,24,28,32,36,40,44,48,52,57,61,64,69,73,76,83] ?_
   refine gc (tF a ob je cP DP dP cI DX r hP Ak oZ oZ) ?_
   rintro _ _ ⟨lC,cq,Dq,rfl,ZG,rfl⟩
   have hkA:∀e∈xb up 0 (SL.take i),e.1<((i+1:Nat):Int)/\1<=e.1:=fun e he=>by
    obtain ⟨j,s',h1, -,rfl⟩:=qi he
    have:=(List.getElem?_eq_some_iff.1 h1).1
    rw [List.length_take] at this
    simp only;omega
   have hnA:jP LA ((i+1:Nat):Int)=none:=by
    show aH LA _=none
    refine jU ?_
    rw [<-IM.keys]
    intro h
    obtain ⟨e,he,e2⟩:=List.mem_map.1 h
    have:=(hkA e he).1
    omega
   have hnD:jP Ld ((i+1:Nat):Int)=none:=by
    show aH Ld _=none
    refine jU ?_
    rw [<-UE.keys,AD,List.map_cons,List.map_map,List.mem_cons]
    rintro (h | h)
    ·simp only at h;omega
    ·obtain ⟨e,he,e2⟩:=List.mem_map.1 h
     have:=(hkA e he).1
     simp only [Function.comp] at e2
     omega
   refine gme ?_;intro c1 CA1 l6
   refine gms ?_;intro CA2 lr
   refine gme ?_;intro c2 CD2 BR
   refine gms ?_;intro CD3 Yl
   refine gn ?_
   refine ⟨(i+1,_,_,CA2,_,CD3,_),⟨by omega,lr,by rw [sw,cu];exact IM.snoc ⟨a,rfl,Bh⟩,Yl,by rw [AD,sw,cu,List.map_append,<-List.cons_append];exact UE.snoc ZG⟩,by simp only;omega,aq,_,aa⟩
 ·obtain rfl:i=112:=by omega
  rw [List.take_of_length_le oZ] at IM UE
  have hdn:((AD up mo SL).map (·.1)).Nodup:=by rw [UE.keys];exact hD.nodup
  have sQ:∀e∈AD up mo SL,e.2.length<=200:=fun e he=>by
   rcases List.mem_cons.1 he with rfl | he
   ·exact aez
   ·obtain ⟨e',he',rfl⟩:=List.mem_map.1 he
    obtain ⟨j,s',h1,h2,rfl⟩:=qi he'
    have h3:=rM.len (s:=s') (KZ s' (List.mem_of_getElem? h1) h2)
    have h4:=kV ((lH up s').ay++(lH up s').index)
    rw [List.length_append] at h4
    simp only [ej];omega
  obtain ⟨od,UF⟩:∃od,od=AD up mo SL:=⟨_,rfl⟩
  rw [<-UF] at UE hdn sQ nC ⊢
  have hKn:∀K:List Pt,K.Nodup->(∀x∈K,x∈bc od)->(K.map (aM m)).Nodup/\(∀k∈K.map (aM m),(k+1:Int)*(m:Int)<=((bD pr ls.length n:Nat):Int))/\K.length<=1280:=fun K hK Lg=>by
   have h1:(K.map (aM m)).Nodup:=List.pairwise_map.2 (hK.imp_of_mem fun ha hb eP e=>eP (nC.inj _ (Lg _ ha) _ (Lg _ hb) e))
   have h2:∀k∈K.map (aM m),(k+1:Int)*(m:Int)<=((bD pr ls.length n:Nat):Int):=fun k hk=>by
    obtain ⟨x,hx,rfl⟩:=List.mem_map.1 hk
    exact nC.bd x (Lg x hx)
   refine ⟨h1,h2, ?_⟩
   have:=pT 1280 _ h1 fun k hk=>by
    have h3:=h2 k hk
    have h4:=Int.mul_le_mul_of_nonneg_left (show (8:Int)<=(m:Int) by omega) (show (0:Int)<=(k:Int)+1 by omega)
    omega
   rwa [List.length_map] at this
  have hK0:∀x∈bc od,x∈([]:List Pt)\/∃q∈Ld.map (·.1),∃l,aH od q=some l/\x∈l:=fun x hx=>.inr (by
   obtain ⟨e,he,yc⟩:=List.mem_flatMap.1 hx
   exact ⟨e.1,by rw [<-UE.keys];exact List.mem_map_of_mem he,e.2,lG hdn he,yc⟩)
  refine uC .i64 ?_;intro WJ AE RT
  refine gr ?_;intro it DI hI
  refine gl [0,4,6,12,90] (fun ((Qq,_):Value×List Pt×List (Int×Value)×Chunk×Chunk×Chunk)=>[(13,Qq)]) (fun (_,_,_,M7,DI,E)=>[CD,DI,M7,E]) (fun (Qq,K,rest,M7,DI,E)=>xZ rd it .i64 Ld rest CD DI/\BN Pt.lay WJ K M7/\(∃ad c,Qq = .slice ad K.length c)/\az E 152 3 Qq K.length ((Ku m (K.map (aM m))).flatMap Pl.lay)/\K.Nodup/\(∀x∈K,x∈bc od)/\∀x∈bc od,x∈K\/∃q∈rest.map (·.1),∃l,aH od q=some l/\x∈l) (fun (_,_,rest,_)=>rest.length) (.slice none 0 0,[],Ld,AE,DI,[]) ⟨hI,BN.start RT,⟨none,0,rfl⟩,az.nil _ _,List.nodup_nil,fun _ h=>(List.not_mem_nil h).elim,hK0⟩ ?_
  clear hI RT hK0
  rintro ⟨Qq,K,rest,M7,DI,E⟩ ⟨hI,hK,⟨ZN,c13,rfl⟩,hE,WL,Lg,Us⟩
  refine Nl ?_ ?_
  ·rintro rfl
   have hD:=hI.mp
   obtain ⟨k1,k2,k3⟩:=hKn K WL Lg
   have han:=fun Dz Qr cz Qu=>GC ((bD pr ls.length n:Nat):Int) (m:Nat) oZ oZ Dz Qr cz Qu (K.map (aM m)) k1 k2 E ZN c13 (by rw [List.length_map];exact hE.rd)
   rw [List.length_map] at han
   refine gc bx ?_
   rintro _ _ ⟨Qr,cz,Dz,rfl,Qu,rfl⟩
   refine gc (han Dz Qr cz Qu.rd) ?_
   rintro _ _ ⟨al,Al,rfl,hAl,rfl⟩
   refine gc qE ?_
   rintro _ _ ⟨rfl,C',V',bA,RG,rfl⟩
   refine gz ?_
   exact fin ⟨s,al,ra,rd,K.map (aM m),rfl,k1,fun k=>⟨fun h=>by
    obtain ⟨x,hx,e⟩:=List.mem_map.1 h
    exact ⟨x,Lg x hx,e⟩,fun ⟨x,hx,e⟩=>by
    rcases Us x hx with h | ⟨q,hq, -⟩
    ·exact List.mem_map.2 ⟨x,h,e⟩
    ·cases hq⟩,C',V',LA,CA,VA,Ld,CD,VD,Al,bA,RG,hA,IM,hD,UE,hAl,rfl⟩ aa
  ·rintro X q v Y GB rfl gM qB hE'
   rcases UE.look q with ⟨h1, -⟩ | ⟨v',l,V1,D,V2,h1,h2,rfl,Bg, -, -⟩
   ·rw [gM] at h1;cases h1
   ·obtain rfl:v=v':=by rw [gM] at h1;exact Option.some.inj h1
    have Bg:az D 85 9 v l.length (aO l):=Bg
    have jq:=Bg.rd
    have iK:l.length<=200:=sQ _ (aI h2)
    obtain ⟨ov,cl,rfl⟩:=jq.slice
    refine Nn ?_
    refine gs ?_
    refine gl [0,4,6,12,90,95,96] (fun ((i,Qq,_):Nat×Value×List Pt×Chunk×Chunk)=>[(97,.int .i64 i),(13,Qq)]) (fun (_,_,_,M7,E)=>[M7,E]) (fun (i,Qq,K2,M7,E)=>i<=l.length/\BN Pt.lay WJ K2 M7/\(∃ad c,Qq = .slice ad K2.length c)/\az E 152 3 Qq K2.length ((Ku m (K2.map (aM m))).flatMap Pl.lay)/\K2.Nodup/\(∀x∈K2,x∈bc od)/\(∀x∈K,x∈K2)/\∀x∈l.take i,x∈K2) (fun (i,_)=>l.length - i) (0,.slice ZN K.length c13,K,M7,E) ⟨by omega,hK,⟨ZN,c13,rfl⟩,hE,WL,Lg,fun _ h=>h,fun x h=>by rw [List.take_zero] at h;cases h⟩ ?_
    clear hK hE WL Lg
    rintro ⟨i,Qq,K2,M7,E⟩ ⟨hi,ZD,⟨abT,c14,rfl⟩,hE,WL,Lg,Qe,jc⟩
    refine gi ?_ ?_ <;> intro pD
    ·have bo:i<l.length:=by omega
     obtain ⟨g,off,rfl⟩:=jq.addr oZ
     obtain ⟨x,hx⟩:∃x,x=l[i]:=⟨_,rfl⟩
     have hs:=ar (lay:=Pt.lay) (s:=9) (fun _=>rfl) l i x (by rw [hx];simp)
     have Fc:x∈bc od:=by rw [hx];exact wy h2 _ (List.getElem_mem bo)
     have mj:=IH s t pool tp pr n ls no V hV ok dx (.pointer none) ra rd u.txg u.note x (nC.top x Fc)
     rw [<-hm,nC.at_ x Fc] at mj
     refine ga ?_;intro b17
     refine glu Pt.lay x ?_
     refine gi ?_ ?_ <;> intro jC
     ·have jC:x∉K2:=by simpa using jC
      have lV:=(hKn K2 WL Lg).2.2
      refine guu Pt.lay x ?_
      rw [if_neg jC]
      intro M8 hK3
      refine gc mj ?_
      rintro _ _ ⟨rfl,rfl⟩
      refine gm ?_;intro afV
      refine gp ?_;intro aeB c15 E15 aeC
      have abU:(K2++[x]).length=K2.length+1:=by simp
      refine gn ?_
      refine ⟨(i+1,_,K2++[x],M8,E15),⟨by omega,hK3,⟨aeB,c15,by rw [abU]⟩,by rw [abU];simpa [Ku,Pl.lay,kK] using aeC, ?_,fun y hy => ?_,fun y hy=>List.mem_append_left _ (Qe y hy),fun y hy => ?_⟩,by simp only;omega,aq,_,aa⟩
      ·rw [List.nodup_append]
       exact ⟨WL,by simp,fun y hy z hz e=>by rw [List.mem_singleton.1 hz] at e;exact jC (e ▸ hy)⟩
      ·rcases List.mem_append.1 hy with hy | hy
       ·exact Lg y hy
       ·rw [List.mem_singleton.1 hy];exact Fc
      ·rw [aG l bo] at hy
       rcases List.mem_append.1 hy with hy | hy
       ·exact List.mem_append_left _ (jc y hy)
       ·rw [List.mem_singleton.1 hy,<-hx];simp
     ·have jC:x∈K2:=by simpa using jC
      refine gn ?_
      refine ⟨(i+1,_,K2,M7,E),⟨by omega,ZD,⟨abT,c14,rfl⟩,hE,WL,Lg,Qe,fun y hy => ?_⟩,by simp only;omega,aq,_,aa⟩
      rw [aG l bo] at hy
      rcases List.mem_append.1 hy with hy | hy
      ·exact jc y hy
      ·rw [List.mem_singleton.1 hy,<-hx];exact jC
    ·obtain rfl:i=l.length:=by omega
     rw [List.take_length] at jc
     refine gn ?_
     refine ⟨(_,K2,X++Y,M7,GB,E),⟨qB,ZD,⟨abT,c14,rfl⟩,hE,WL,Lg,fun x hx => ?_⟩,by simp only [List.length_append,List.length_cons];omega,aq,_,aa⟩
     rcases Us x hx with h | ⟨q',mZ,l',lT,Fe⟩
     ·exact .inl (Qe x h)
     ·rw [List.map_append,List.map_cons,List.mem_append,List.mem_cons] at mZ
      rcases mZ with mZ | rfl | mZ
      ·exact .inr ⟨q',by rw [List.map_append];exact List.mem_append_left _ mZ,l',lT,Fe⟩
      ·rw [h2] at lT;cases lT;exact .inl (jc x Fe)
      ·exact .inr ⟨q',by rw [List.map_append];exact List.mem_append_right _ mZ,l',lT,Fe⟩
end
set_option maxHeartbeats 4000000
section
variable (T:TypeId)(fr:Nat×Nat)(p:Nat)(qs:List Nat)(t pool:Nat)(tp:Tp)(pr:Bool)(n:Nat)(ls:List (Option Lv))(no:Nat)(V:Chunk)(hV:jd t pool tp pr n ls no V)(ok:dE tp pr n ls.length)(dx:n<=2048)(R:Rk)(C:Chunk)(hC:br p qs R C)(ho:dI qs R n ls)(hall:∀x∈ls,x≠none)(bW:R.on)
include hV ok dx hC ho hall bW
theorem UG (hq:bD pr ls.length n / aN pr ls.length 1024 / 4<10) :
  Ct 16 [ptr t] [gK T fr,C,V] fun v Bs=>v = .tuple #[.pointer none,.int .i64 3]/\Bs=[gK T fr,C,V]:=by
 have _:=hC
 have _:=ho
 have _:=hall
 have _:=bW
 have hz:=iA pr ok.hw ⟨ok.hn.1,dx⟩
 have Y9:=sv pr ok.hw ok.hp
 have bx:=Ag t pool tp pr n ls no V hV ok dx
 have fM:=fun s vA ra rd=>Ah s t pool tp pr n ls no V hV ok dx vA ra rd 0 0
 have han:=fun Dz Qr cz Qu=>GC ((bD pr ls.length n:Nat):Int) (aN pr ls.length 1024:Nat) oZ oZ Dz Qr cz Qu [] List.nodup_nil (fun _ h=>by cases h) [] none 0 (Rd.nil [] 3)
 generalize bD pr ls.length n / aN pr ls.length 1024=q at *
 refine st Tryz.func16 fun w0 => ?_
 refine gc bx ?_
 rintro _ _ ⟨Qr,cz,Dz,rfl,Qu,rfl⟩
 refine gc (han Dz Qr cz Qu.rd) ?_
 rintro _ _ ⟨al,Al,rfl,hAl,rfl⟩
 refine uC .i64 ?_;intro ra CA hA
 refine uC .i64 ?_;intro rd CD hD
 refine ga ?_;intro s
 refine gc (fM s (ptr al) ra rd) ?_
 rintro _ _ ⟨rfl,rfl⟩
 refine gz ?_
 exact fin ⟨rfl,rfl⟩ aa
theorem ZO (hq:10<=bD pr ls.length n / aN pr ls.length 1024 / 4)(hr:∀(i:Nat) (x:Lv),ls[i]? = some (some x)->iL R n x.i fun _ _=>none)(x6:pool<18446744073709551616)(hw:R.ws.length+80<=900000000000) :
  Ct 16 [ptr t] [gK T fr,C,V] fun v Bs=>∃s al ra rd,v = .tuple #[ptr s,.int .i64 0]/\∃C' CA CD Al,br p qs ((R.run (oA n ls ⟨pool,1,0,ah⟩)).run (iF ls)) C'/\Mp ra .i64 [] CA/\Mp rd .i64 [] CD /\
   oN al ((bD pr ls.length n:Nat):Int) (aN pr ls.length 1024:Nat) ⟨[],[]⟩ Al/\Bs=[[(s,bS t (ptr al) ra rd 1 0)],gK T fr,C',V,CA,CD,Al]:=by
 have hz:=iA pr ok.hw ⟨ok.hn.1,dx⟩
 have Y9:=sv pr ok.hw ok.hp
 have bx:=Ag t pool tp pr n ls no V hV ok dx
 have fM:=fun s vA ra rd=>Ah s t pool tp pr n ls no V hV ok dx vA ra rd 0 0
 have ZK:=Ad T fr p qs t pool tp pr n ls no V hV ok hall R C hC ho bW.2 (fun _ _ _=>none) hr [] (by simp) (fun _ _ _ _ h=>by cases h)
 have AZ:=fun s vA ra rd=>Ek T fr p qs t pool tp pr n ls no V hV ok hall R C hC ho bW s vA ra rd 0 0 ah rfl (by refine ⟨?_, ?_, ?_, ?_, ?_, ?_, ?_, ?_, ?_⟩ <;> decide) 0 x6 oZ oZ (Nat.zero_le _) hw
 have han:=fun Dz Qr cz Qu=>GC ((bD pr ls.length n:Nat):Int) (aN pr ls.length 1024:Nat) oZ oZ Dz Qr cz Qu [] List.nodup_nil (fun _ h=>by cases h) [] none 0 (Rd.nil [] 3)
 generalize hqd:bD pr ls.length n / aN pr ls.length 1024=q at *
 have hq2:q<=10240:=by rw [<-hqd];exact Nat.le_trans (Nat.div_le_self _ _) hz.2
 refine st Tryz.func16 fun w0 => ?_
 refine gc bx ?_
 rintro _ _ ⟨Qr,cz,Dz,rfl,Qu,rfl⟩
 refine gc (han Dz Qr cz Qu.rd) ?_
 rintro _ _ ⟨al,Al,rfl,hAl,rfl⟩
 refine uC .i64 ?_;intro ra CA hA
 refine uC .i64 ?_;intro rd CD hD
 refine ga ?_;intro s
 refine gc (fM s (ptr al) ra rd) ?_
 rintro _ _ ⟨rfl,rfl⟩
 refine gc ZK ?_
 rintro _ _ ⟨⟨x,hx,rfl⟩,rfl⟩
 obtain rfl:x=jj:=by
  rcases hx with ⟨h, -⟩ | ⟨⟨i,k,j, -, -, -,h, -⟩, -⟩
  ·exact h
  ·cases h
 refine ga ?_;intro b7
 refine gc (AZ s (ptr al) ra rd) ?_
 rintro _ _ ⟨rfl,C',bA,rfl⟩
 refine gz ?_
 exact fin ⟨s,al,ra,rd,rfl,C',CA,CD,Al,bA,hA,hD,hAl,rfl⟩ aa
end
theorem Lh (s dS t:Nat)(vA:Value)(ra rd txg note:Nat)(H1 H2 H3 H4 H5 H6 H7 H8:Chunk)(Q:List Chunk->Prop)(hQ:∀Bs,Q Bs->∃a b c d e f g h i,Bs=[a,b,c,d,e,f,g,h,i])
  (h:Ct 118 [ptr s,.int .u64 dS] [[(s,bS t vA ra rd txg note)],H1,H2,H3,H4,H5,H6,H7,H8] fun u Bs=>u = .int .i64 0/\Q Bs) :
  Ct 55 [ptr s,.int .u64 dS] [[(s,bS t vA ra rd txg note)],H1,H2,H3,H4,H5,H6,H7,H8] fun u Bs=>u = .int .i64 0/\Q Bs:=by
 refine st Tryz.func55 fun w0 => ?_
 refine gc h ?_
 rintro _ Bs ⟨rfl,hB⟩
 obtain ⟨a,b,c,d,e,f,g,h,i,rfl⟩:=hQ Bs hB
 refine gz ?_
 exact fin ⟨rfl,hB⟩ aa
section
variable (T:TypeId)(fr:Nat×Nat)(p:Nat)(qs:List Nat)(t pool:Nat)(tp:Tp)(pr:Bool)(n:Nat)(ls:List (Option Lv))(no:Nat)(V:Chunk)(hV:jd t pool tp pr n ls no V)(ok:dE tp pr n ls.length)(dx:n<=2048)(R:Rk)(C:Chunk)(hC:br p qs R C)(ho:dI qs R n ls)(hall:∀x∈ls,x≠none)(bW:R.off=false)
variable (s:Nat)(vA:Value)(ra rd txg note:Nat)(LA:List (Int×Value))(CA:Chunk)(hA:Mp ra .i64 LA CA)(all:List (Int×Ob))(VA:Chunk)(hG:eT w9 LA all VA)(bx:∀e∈all,e.2.size<=65536)(hlen:all.length<=112)
include hV ok dx hA hG bx hlen hC ho hall bW
theorem Qv (k:Int)(hk:1<=k/\k<=112)(a m:Nat)(KG:a+m<=65536)(O:Chunk)(gf:Option Addr)(cb:Nat)(b:List UInt8)(cV:b.length=m)(hO:Rd O 1 (.slice gf m cb) m (ak b))(G0:m<=cb)
  (du:Pt->List UInt8) (Pe:∀x∈(Ob.at all k).ay,x≠ah->KC R ls pr n x (du x)) (oQ:∀e∈(Ob.at all k).fresh,e.2.length<=1024) (hf:nX all k (max (Ob.at all k).size (a+m)) (bD pr ls.length n / aN pr ls.length 1024 / 4 - 10)=true) :
  Ct 46 [ptr s,.int .i64 k,.int .i64 a,.slice gf m cb] [[(s,bS t vA ra rd txg note)],gK T fr,C,V,CA,VA,O] fun u Bs=>u = .int .i64 0/\∃L' C' V' cd,(∀q,aH cd q=if cQ a m q then some (jG ((Ob.at all k).byte du) a b (max (Ob.at all k).size (a+m)) q.toNat) else aH (Ob.at all k).fresh q) /\
   Mp ra .i64 L' C'/\eT w9 L' (ec all k { Ob.at all k with size:=max (Ob.at all k).size (a+m),fresh:=cd,clean:=false }) V'/\Bs=[[(s,bS t vA ra rd txg note)],gK T fr,C,V,C',V',O]:=by
 have hh:=jx k
 rw [decide_eq_true hk] at hh
 have bE:=rE s t pool tp pr n ls no V hV ok dx vA ra rd txg note LA CA hA all VA hG bx hlen k
 rcases hG.look k with ⟨h1,h2,bL⟩ | ⟨v',o,V1,D,V2,h1,h2,rfl,⟨ao,rfl,Bh⟩, -,bL⟩
 ·have gh:Ob.at all k=bB:=by unfold Ob.at;rw [h2];rfl
  rw [gh] at hf Pe oQ ⊢
  have hso:bB.size<=65536:=by simp only [bB];omega
  have bE:=bE (max bB.size (a+m)) oZ
  rw [hf] at bE
  obtain ⟨size,wa⟩:∃z,z=max bB.size (a+m):=⟨_,rfl⟩
  rw [<-wa] at bE ⊢
  obtain ⟨grown,Fm⟩:∃g:Ob,g={ bB with size:=size,index:=[],clean:=false }:=⟨_,rfl⟩
  have Qw:∀j,grown.byte du j=bB.byte du j:=fun j=>by rw [Fm];rfl
  have ZP:grown.byte du=bB.byte du:=funext Qw
  refine st Tryz.func46 fun w0 => ?_
  refine gc hh ?_
  rintro _ _ ⟨rfl,rfl⟩
  refine uC .i64 ?_;intro r CF hM
  refine ga ?_;intro ao
  refine go ?_
  rw [show max (0:Int) ((a+m:Nat):Int)=(size:Int) by rw [wa];simp only [bB];omega]
  refine gc bE ?_
  rintro _ _ ⟨rfl,rfl⟩
  refine gd [0,4,8,12,16,20,24,28,32,36,40,44,48,55,58] ?_
  refine ga ?_;intro g11
  refine uC .i64 ?_;intro WJ AE RT
  have ef:=fun A hA i hi=>pX T fr p qs t pool tp pr n ls no V hV ok R C hC ho hall bW s vA ra rd txg note g11 grown (by rw [Fm];simp only;omega) A hA i hi du (fun x hx=>Pe x (List.mem_of_getElem? (show bB.ay[i]? = some x by rw [Fm] at hx;exact hx))) (fun e he=>oQ e (by rw [Fm] at he;exact he))
  have ef:=ef ([(g11,xu bB.used size bB.root (.slice none bB.ay.length 0) (.slice none 0 0) r false)]++(([]:Chunk)++([]++(CF++([]:Chunk))))) (by rw [Fm];exact ⟨none,0,([]:Chunk),none,0,[],r,[],CF,([]:Chunk),az.nil _ _,az.nil _ _,hM,rfl,rfl⟩)
  have hsg:∀i,grown.fN du i=(List.range' (i*1024) (aT size i)).map (bB.byte du):=fun i=>by rw [Ob.nu,Ob.l8,ZP,Fm]
  refine gl [0,1,2,3,9,10,11,12] (fun ((f,_):Nat×List (Int×Value)×List (Int×List UInt8)×Chunk×Chunk)=>[(13,.int .i64 f)]) (fun (_,_,_,AE,xC)=>[AE,xC]) (fun (f,Qx,AF,AE,xC)=>a<=f/\f<=a+m/\(f<a+m->f=a\/f % 1024=0)/\Mp WJ .i64 Qx AE/\eT lE Qx AF xC/\∀q,aH AF q=if cQ a (f - a) q then some (jG (bB.byte du) a b size q.toNat) else none) (fun (f,_)=>a+m - f) (a,[],[],AE,[]) ⟨by omega,by omega,fun _=>.inl rfl,RT,rfl,fun q=>by rw [if_neg (by simp [cQ])];rfl⟩ ?_
  clear RT
  rintro ⟨f,Qx,AF,AE,xC⟩ ⟨hf1,w5,UH,RT,Hd,qj⟩
  refine gi ?_ ?_ <;> intro bh
  ·have bh:f<a+m:=by omega
   have UH:=UH bh
   obtain ⟨i,hi⟩:∃i,i=f / 1024:=⟨_,rfl⟩
   have hii:i<=100:=by omega
   have ef:=ef i hii
   rw [hsg] at ef
   obtain ⟨to,hto⟩:∃z,z=min ((i+1)*1024) (a+m):=⟨_,rfl⟩
   have hgs:grown.size=size:=by rw [Fm]
   rw [hgs] at ef
   obtain ⟨L,hL⟩:∃L,L=aT size i:=⟨_,rfl⟩
   rw [<-hL] at ef
   have KK:L=min 1024 (size - i*1024):=hL
   obtain ⟨d,hd⟩:∃d,d=f - i*1024:=⟨_,rfl⟩
   have zI:=IL (old:=bB.byte du) (at_:=a) (b:=b) (size:=size) (i:=i) (f:=f) (d:=d) hL oZ hf1 oZ oZ oZ hd oZ
   have nZ:((ak b).drop ((f - a)*1)).take ((to - a - (f - a))*1)=ak ((b.drop (f - a)).take (to - f)):=by
    rw [Nat.mul_one,Nat.mul_one,aY,aL,show to - a - (f - a)=to - f by omega]
   have aeD:to - a - (f - a)=to - f:=by omega
   have Ue:(ak ((List.range' (i*1024) L).map (bB.byte du))).take d++(ak ((b.drop (f - a)).take (to - f))).take (min (to - f) (L - d))++(ak ((List.range' (i*1024) L).map (bB.byte du))).drop (d+min (to - f) (L - d))=ak (jG (bB.byte du) a b size i):=by
    rw [show min (to - f) (L - d)=to - f by omega,<-zI,cV,<-hto,aE,aE,aL,aL,aY,List.take_take,Nat.min_self]
   have rF:=yv (a:=a) hi UH
   rcases Hd.look i with ⟨k1,k2,k3⟩ | ⟨v9,x9,W1,D9,W2,k1,k2, -⟩
   ·refine go ?_
    rw [<-hi,show min (((i+1)*1024:Nat):Int) ((a+m:Nat):Int)=(to:Int) by omega]
    refine gc ef ?_
    rintro _ _ ⟨g16,rfl,rfl⟩
    refine gs ?_
    have hrl:(List.range' (i*1024) L).length=L:=by simp
    subst hd
    refine gv ?_
    refine gw ?_;intro ad2 kr
    refine gy ?_
    refine gu ?_;intro ZQ ZR
    have OY:lE (.slice (some ⟨g16,0,none⟩) L L) (jG (bB.byte du) a b size i) [(g16,av (ak (jG (bB.byte du) a b size i)) 5)]:=by
     unfold lE
     rw [iC,<-hL]
     exact T3 (by rw [iC,hL]) oZ
    refine gn ?_
    refine ⟨(to,_,_,ZQ,xC++[(g16,av (ak (jG (bB.byte du) a b size i)) 5)]),⟨by omega,by omega,fun h=>by omega,ZR,k3 _ _ _ OY,fun q => ?_⟩,by simp only;omega,aq,_,aa⟩
    rw [ic,qj,we (g:=to) hi hf1 oZ oZ UH]
    by_cases c:(i:Int)=q
    ·subst c;simp
    ·have:¬q=(i:Int):=fun h=>c h.symm
     simp [c,this]
   ·rw [qj,rF] at k2;simp at k2
  ·obtain rfl:f=a+m:=by omega
   rw [show a+m - a=m by omega] at qj
   refine gr ?_
   intro it DI hI
   refine gl [0,1,9,149] (fun (_:List (Int×Value)×List (Int×List UInt8)×Chunk×Chunk×List (Int×Value)×List (Int×List UInt8)×Chunk×Chunk)=>[]) (fun (_,_,CF,VF,_,_,xC,DI)=>[CF,VF,xC,DI,AE]) (fun (LF,cd,CF,VF,rest,Mr,xC,DI)=>Mp r .i64 LF CF/\eT lE LF cd VF/\xZ WJ it .i64 Qx rest AE DI/\eT lE rest Mr xC/\(∀q x,aH Mr q=some x->aH AF q=some x)/\∀q,aH cd q=if (aH Mr q).isSome then aH bB.fresh q else (match aH AF q with | some x=>some x | none=>aH bB.fresh q)) (fun (_,_,_,_,rest,_)=>rest.length) ([],bB.fresh,CF,([]:Chunk),Qx,AF,xC,DI) ⟨hM,rfl,hI,Hd,fun _ _ h=>h,fun q=>by cases aH AF q <;> rfl⟩ ?_
   clear hI Hd ef
   rintro ⟨DR,cd,vU,Am,rest,Mr,aeE,GB⟩ ⟨hM',KM,hI,Uj,j3,Qy⟩
   refine Nl ?_ ?_
   ·rintro rfl
    have hMr:Mr=[]:=by
     cases Mr with
     | nil=>rfl
     | cons e _=>exact Uj.elim
    subst hMr
    have nE:∀q,aH cd q=if cQ a m q then some (jG (bB.byte du) a b size q.toNat) else aH bB.fresh q:=fun q=>by
     rw [Qy,qj]
     by_cases c:cQ a m q=true
     ·rw [if_pos c,if_pos c];rfl
     ·rw [if_neg c,if_neg c];rfl
    refine gu ?_;intro CA' dX
    refine gz ?_
    exact fin ⟨rfl,_,CA',_,cd,nE,dX,bL (ptr ao) { bB with size:=size,fresh:=cd,clean:=false } ([(ao,xu bB.used size bB.root (.slice none 0 0) (.slice none 0 0) r false)]++([]++([]++(vU++Am)))) ⟨ao,rfl,_,_,[],_,_,[],r,DR,vU,Am,az.nil _ _,az.nil _ _,hM',KM,rfl⟩,rfl⟩ aa
   ·rintro X q v Y xx rfl gM qB hE
    have ek:=hI.nodup.1
    rw [<-Uj.keys] at ek
    obtain ⟨MA,x,MB,U1,D9,U2,rfl,rfl,Fl,Qz⟩:=Uj.pull
    have ZS:=j3 q x (eU ek (by simp))
    have GV:az D9 5 1 v x.length (ak x):=Fl
    have Ep:∀p x',aH (MA++MB) p=some x'->aH AF p=some x':=fun p x' h=>by
     rw [pY ek] at h
     split at h
     ·cases h
     ·exact j3 p x' h
    have qD:∀p,aH (ec cd q x) p=if (aH (MA++MB) p).isSome then aH bB.fresh p else (match aH AF p with | some x=>some x | none=>aH bB.fresh p):=fun p=>by
     rw [ic,pY ek]
     by_cases c:p=q
     ·subst c;rw [if_pos rfl,if_pos rfl,ZS];rfl
     ·rw [if_neg (fun h=>c h.symm),if_neg c,Qy]
    have ik:(X++Y).length<(X++(q,v) :: Y).length:=by simp only [List.length_append,List.length_cons];omega
    refine Nn ?_
    rcases KM.look q with ⟨-, -,He⟩ | ⟨v9,x9,W1,D0,W2, -, -,rfl, -, -,He⟩
    ·refine gs ?_
     refine gu ?_;intro Pz ZT
     refine gn ?_
     exact ⟨(_,_,Pz,Am++D9,X++Y,MA++MB,U1++U2,xx),⟨ZT,He v x D9 Fl,qB,Qz,Ep,qD⟩,ik,aq,_,aa⟩
    ·refine gs ?_
     refine gu ?_;intro Pz ZT
     refine gn ?_
     exact ⟨(_,_,Pz,W1++(D9++W2),X++Y,MA++MB,U1++U2,xx),⟨ZT,He v x D9 Fl,qB,Qz,Ep,qD⟩,ik,aq,_,aa⟩
 ·have gh:Ob.at all k=o:=by unfold Ob.at;rw [h2];rfl
  rw [gh] at hf Pe oQ ⊢
  have hso:o.size<=65536:=bx _ (aI h2)
  have bE:=bE (max o.size (a+m)) oZ
  rw [hf] at bE
  obtain ⟨size,wa⟩:∃z,z=max o.size (a+m):=⟨_,rfl⟩
  rw [<-wa] at bE ⊢
  obtain ⟨grown,Fm⟩:∃g:Ob,g={ o with size:=size,index:=[],clean:=false }:=⟨_,rfl⟩
  have Qw:∀j,grown.byte du j=o.byte du j:=fun j=>by rw [Fm];rfl
  have ZP:grown.byte du=o.byte du:=funext Qw
  obtain ⟨je,cP,DP,dP,cI,DX,r,LF,CF,VF,hP,Ak,hM,hF,rfl⟩:=Bh
  refine st Tryz.func46 fun w0 => ?_
  refine gs ?_
  refine gc hh ?_
  rintro _ _ ⟨rfl,rfl⟩
  refine go ?_
  rw [show max (o.size:Int) ((a+m:Nat):Int)=(size:Int) by rw [wa];omega]
  refine gc bE ?_
  rintro _ _ ⟨rfl,rfl⟩
  refine gs ?_
  refine gd [0,4,8,12,16,20,24,28,32,36,40,44,48,55,58] ?_
  refine ga ?_;intro g11
  refine uC .i64 ?_;intro WJ AE RT
  have ef:=fun A hA i hi=>pX T fr p qs t pool tp pr n ls no V hV ok R C hC ho hall bW s vA ra rd txg note g11 grown (by rw [Fm];simp only;omega) A hA i hi du (fun x hx=>Pe x (List.mem_of_getElem? (show o.ay[i]? = some x by rw [Fm] at hx;exact hx))) (fun e he=>oQ e (by rw [Fm] at he;exact he))
  have ef:=ef ([(g11,xu o.used size o.root (.slice je o.ay.length cP) (.slice none 0 0) r false)]++(DP++([]++(CF++VF)))) (by rw [Fm];exact ⟨je,cP,DP,none,0,[],r,LF,CF,VF,hP,az.nil _ _,hM,hF,rfl⟩)
  have hsg:∀i,grown.fN du i=(List.range' (i*1024) (aT size i)).map (o.byte du):=fun i=>by rw [Ob.nu,Ob.l8,ZP,Fm]
  refine gl [0,1,2,3,9,10,11,12] (fun ((f,_):Nat×List (Int×Value)×List (Int×List UInt8)×Chunk×Chunk)=>[(13,.int .i64 f)]) (fun (_,_,_,AE,xC)=>[AE,xC]) (fun (f,Qx,AF,AE,xC)=>a<=f/\f<=a+m/\(f<a+m->f=a\/f % 1024=0)/\Mp WJ .i64 Qx AE/\eT lE Qx AF xC/\∀q,aH AF q=if cQ a (f - a) q then some (jG (o.byte du) a b size q.toNat) else none) (fun (f,_)=>a+m - f) (a,[],[],AE,[]) ⟨by omega,by omega,fun _=>.inl rfl,RT,rfl,fun q=>by rw [if_neg (by simp [cQ])];rfl⟩ ?_
  clear RT
  rintro ⟨f,Qx,AF,AE,xC⟩ ⟨hf1,w5,UH,RT,Hd,qj⟩
  refine gi ?_ ?_ <;> intro bh
  ·have bh:f<a+m:=by omega
   have UH:=UH bh
   obtain ⟨i,hi⟩:∃i,i=f / 1024:=⟨_,rfl⟩
   have hii:i<=100:=by omega
   have ef:=ef i hii
   rw [hsg] at ef
   obtain ⟨to,hto⟩:∃z,z=min ((i+1)*1024) (a+m):=⟨_,rfl⟩
   have hgs:grown.size=size:=by rw [Fm]
   rw [hgs] at ef
   obtain ⟨L,hL⟩:∃L,L=aT size i:=⟨_,rfl⟩
   rw [<-hL] at ef
   have KK:L=min 1024 (size - i*1024):=hL
   obtain ⟨d,hd⟩:∃d,d=f - i*1024:=⟨_,rfl⟩
   have zI:=IL (old:=o.byte du) (at_:=a) (b:=b) (size:=size) (i:=i) (f:=f) (d:=d) hL oZ hf1 oZ oZ oZ hd oZ
   have nZ:((ak b).drop ((f - a)*1)).take ((to - a - (f - a))*1)=ak ((b.drop (f - a)).take (to - f)):=by
    rw [Nat.mul_one,Nat.mul_one,aY,aL,show to - a - (f - a)=to - f by omega]
   have aeD:to - a - (f - a)=to - f:=by omega
   have Ue:(ak ((List.range' (i*1024) L).map (o.byte du))).take d++(ak ((b.drop (f - a)).take (to - f))).take (min (to - f) (L - d))++(ak ((List.range' (i*1024) L).map (o.byte du))).drop (d+min (to - f) (L - d))=ak (jG (o.byte du) a b size i):=by
    rw [show min (to - f) (L - d)=to - f by omega,<-zI,cV,<-hto,aE,aE,aL,aL,aY,List.take_take,Nat.min_self]
   have rF:=yv (a:=a) hi UH
   rcases Hd.look i with ⟨k1,k2,k3⟩ | ⟨v9,x9,W1,D9,W2,k1,k2, -⟩
   ·refine go ?_
    rw [<-hi,show min (((i+1)*1024:Nat):Int) ((a+m:Nat):Int)=(to:Int) by omega]
    refine gc ef ?_
    rintro _ _ ⟨g16,rfl,rfl⟩
    refine gs ?_
    have hrl:(List.range' (i*1024) L).length=L:=by simp
    subst hd
    refine gv ?_
    refine gw ?_;intro ad2 kr
    refine gy ?_
    refine gu ?_;intro ZQ ZR
    have OY:lE (.slice (some ⟨g16,0,none⟩) L L) (jG (o.byte du) a b size i) [(g16,av (ak (jG (o.byte du) a b size i)) 5)]:=by
     unfold lE
     rw [iC,<-hL]
     exact T3 (by rw [iC,hL]) oZ
    refine gn ?_
    refine ⟨(to,_,_,ZQ,xC++[(g16,av (ak (jG (o.byte du) a b size i)) 5)]),⟨by omega,by omega,fun h=>by omega,ZR,k3 _ _ _ OY,fun q => ?_⟩,by simp only;omega,aq,_,aa⟩
    rw [ic,qj,we (g:=to) hi hf1 oZ oZ UH]
    by_cases c:(i:Int)=q
    ·subst c;simp
    ·have:¬q=(i:Int):=fun h=>c h.symm
     simp [c,this]
   ·rw [qj,rF] at k2;simp at k2
  ·obtain rfl:f=a+m:=by omega
   rw [show a+m - a=m by omega] at qj
   refine gr ?_
   intro it DI hI
   refine gl [0,1,9,149] (fun (_:List (Int×Value)×List (Int×List UInt8)×Chunk×Chunk×List (Int×Value)×List (Int×List UInt8)×Chunk×Chunk)=>[]) (fun (_,_,CF,VF,_,_,xC,DI)=>[CF,VF,xC,DI,AE]) (fun (LF,cd,CF,VF,rest,Mr,xC,DI)=>Mp r .i64 LF CF/\eT lE LF cd VF/\xZ WJ it .i64 Qx rest AE DI/\eT lE rest Mr xC/\(∀q x,aH Mr q=some x->aH AF q=some x)/\∀q,aH cd q=if (aH Mr q).isSome then aH o.fresh q else (match aH AF q with | some x=>some x | none=>aH o.fresh q)) (fun (_,_,_,_,rest,_)=>rest.length) (LF,o.fresh,CF,VF,Qx,AF,xC,DI) ⟨hM,hF,hI,Hd,fun _ _ h=>h,fun q=>by cases aH AF q <;> rfl⟩ ?_
   clear hI Hd ef
   rintro ⟨DR,cd,vU,Am,rest,Mr,aeE,GB⟩ ⟨hM',KM,hI,Uj,j3,Qy⟩
   refine Nl ?_ ?_
   ·rintro rfl
    have hMr:Mr=[]:=by
     cases Mr with
     | nil=>rfl
     | cons e _=>exact Uj.elim
    subst hMr
    have nE:∀q,aH cd q=if cQ a m q then some (jG (o.byte du) a b size q.toNat) else aH o.fresh q:=fun q=>by
     rw [Qy,qj]
     by_cases c:cQ a m q=true
     ·rw [if_pos c,if_pos c];rfl
     ·rw [if_neg c,if_neg c];rfl
    refine gu ?_;intro CA' dX
    refine gz ?_
    exact fin ⟨rfl,_,CA',_,cd,nE,dX,bL (ptr ao) { o with size:=size,fresh:=cd,clean:=false } ([(ao,xu o.used size o.root (.slice je o.ay.length cP) (.slice dP o.index.length cI) r false)]++(DP++(DX++(vU++Am)))) ⟨ao,rfl,_,_,DP,_,_,DX,r,DR,vU,Am,hP,Ak,hM',KM,rfl⟩,rfl⟩ aa
   ·rintro X q v Y xx rfl gM qB hE
    have ek:=hI.nodup.1
    rw [<-Uj.keys] at ek
    obtain ⟨MA,x,MB,U1,D9,U2,rfl,rfl,Fl,Qz⟩:=Uj.pull
    have ZS:=j3 q x (eU ek (by simp))
    have GV:az D9 5 1 v x.length (ak x):=Fl
    have Ep:∀p x',aH (MA++MB) p=some x'->aH AF p=some x':=fun p x' h=>by
     rw [pY ek] at h
     split at h
     ·cases h
     ·exact j3 p x' h
    have qD:∀p,aH (ec cd q x) p=if (aH (MA++MB) p).isSome then aH o.fresh p else (match aH AF p with | some x=>some x | none=>aH o.fresh p):=fun p=>by
     rw [ic,pY ek]
     by_cases c:p=q
     ·subst c;rw [if_pos rfl,if_pos rfl,ZS];rfl
     ·rw [if_neg (fun h=>c h.symm),if_neg c,Qy]
    have ik:(X++Y).length<(X++(q,v) :: Y).length:=by simp only [List.length_append,List.length_cons];omega
    refine Nn ?_
    rcases KM.look q with ⟨-, -,He⟩ | ⟨v9,x9,W1,D0,W2, -, -,rfl, -, -,He⟩
    ·refine gs ?_
     refine gu ?_;intro Pz ZT
     refine gn ?_
     exact ⟨(_,_,Pz,Am++D9,X++Y,MA++MB,U1++U2,xx),⟨ZT,He v x D9 Fl,qB,Qz,Ep,qD⟩,ik,aq,_,aa⟩
    ·refine gs ?_
     refine gu ?_;intro Pz ZT
     refine gn ?_
     exact ⟨(_,_,Pz,W1++(D9++W2),X++Y,MA++MB,U1++U2,xx),⟨ZT,He v x D9 Fl,qB,Qz,Ep,qD⟩,ik,aq,_,aa⟩
end
end Go.Proofs.YtcfioaeamfappaaGreatDoor
namespace Go.Sl
def oJ (pr:Bool)(w:Nat)(R:Rk)(at_:Nat)(b:List UInt8):Prop :=
 if pr then ∀(j:Nat) (s:eF),(iW w b)[j]? = some s->R.now ((at_+j) % w) (274+(at_+j) / w)=s
 else ∀i,i<w->∀(j:Nat) (s:eF),(kG b)[j]? = some s->R.now i (274+at_+j)=s
theorem UI {R:Rk}{i a:Nat}{l:List eF}(h:∀(j:Nat) (s:eF),l[j]? = some s->R.now i (a+j)=s)(ha:a+l.length<=R.size i):R.rn i a l.length=l.flatten:=by
 unfold Rk.rn
 unfold Rk.size at ha
 cases hx:R.ds[i]? with
 | none =>
  rw [hx] at ha
  simp only [Option.map_none,Option.getD_none] at ha
  obtain rfl:l=[]:=List.eq_nil_of_length_eq_zero oZ
  simp
 | some d =>
  rw [hx] at ha
  simp only [Option.map_some,Option.getD_some] at ha ⊢
  congr 1
  apply List.ext_getElem (by rw [List.length_take,List.length_drop];omega)
  intro j h1 h2
  have:=h j l[j] (List.getElem?_eq_getElem h2)
  unfold Rk.now at this
  rw [hx] at this
  simp only [Option.bind_some] at this
  rw [List.getElem?_eq_getElem oZ,Option.getD_some] at this
  rw [List.getElem_take,List.getElem_drop]
  exact this
section
variable {pr:Bool}{ls:List (Option Lv)}{n:Nat}{R R':Rk}{at_:Nat}{b:List UInt8}
theorem aj {w:Nat}(hp:pr=true->3<=w)(b:List UInt8):(if pr then (iW w b).length else (kG b).length)=aN pr w b.length:=by
 cases pr with
 | true=>have:=hp rfl;rw [if_pos rfl,aN,if_pos rfl,pO oZ]
 | false=>rw [if_neg (by simp),aN,if_neg (by simp),gX]
theorem AG {w n x at_ N:Nat}(hx:x<N)(h:at_+N<=w*(n - 292))(hn:324<=n):274+(at_+x) / w<n - 18:=by
 have:(at_+x) / w<n - 292:=Nat.div_lt_of_lt_mul oZ
 omega
theorem QA (hI:wm ls)(hn:324<=n)(bx:∀i,i<ls.length->R.size i=n)(hf:at_+aN pr ls.length b.length<=bD pr ls.length n)(h:oJ pr ls.length R at_ b):vg pr R ls at_ b:=by
 cases pr with
 | true =>
  rw [oJ,if_pos rfl] at h
  rw [vg,if_pos rfl]
  intro j s x hj hx
  rw [(hI.at hx).1]
  exact h j s hj
 | false =>
  rw [oJ,if_neg (by simp)] at h
  rw [vg,if_neg (by simp)]
  rw [aN,if_neg (by simp),bD,if_neg (by simp)] at hf
  intro x hx
  obtain ⟨k,hk⟩:=List.mem_iff_getElem?.1 hx
  obtain ⟨h1,h2⟩:=hI.at hk
  rw [h1,<-gX,UI (h k h2) (by rw [gX,bx k h2];omega),(kH b).2]
theorem Hf {w:Nat}(hn:324<=n)(hp:pr=true->3<=w)(hf:at_+aN pr w b.length<=bD pr w n)(hR:∀i,i<w->∀a,274<=a->a<n - 18->R'.now i a=R.now i a)(h:oJ pr w R at_ b):oJ pr w R' at_ b:=by
 have hl:=aj hp b
 cases pr with
 | true =>
  have:=hp rfl
  rw [oJ,if_pos rfl] at h ⊢
  rw [if_pos rfl] at hl
  rw [bD,if_pos rfl] at hf
  intro j s hj
  have oV:=(List.getElem?_eq_some_iff.1 hj).1
  rw [hR _ (Nat.mod_lt _ oZ) _ (Nat.le_add_right _ _) (AG oZ hf hn)]
  exact h j s hj
 | false =>
  rw [oJ,if_neg (by simp)] at h ⊢
  rw [if_neg (by simp)] at hl
  rw [bD,if_neg (by simp)] at hf
  intro i hi j s hj
  have oV:=(List.getElem?_eq_some_iff.1 hj).1
  rw [hR i hi _ oZ oZ]
  exact h i hi j s hj
theorem wA {w x y:Nat}(h1:x % w=y % w)(h2:x / w=y / w):x=y:=by
 have e1:=Nat.div_add_mod x w
 have e2:=Nat.div_add_mod y w
 rw [h1,h2] at e1;omega
theorem Li (hI:wm ls)(bW:R.on)(hn:324<=n)(hp:pr=true->3<=ls.length)(bx:∀i,i<ls.length->R.size i=n)(hf:at_+aN pr ls.length b.length<=bD pr ls.length n):oJ pr ls.length (R.run (sS pr ls at_ b)) at_ b:=by
 have hl:=aj hp b
 have hm:=fun (i a:Nat) (s:eF)=>Au hI (pr:=pr) (at_:=at_) (bs:=b) (fun h=>by have:=hp h;omega) (i:=i) (a:=a) (b:=s)
 cases pr with
 | true =>
  have:=hp rfl
  rw [oJ,if_pos rfl]
  rw [if_pos rfl] at hl
  rw [bD,if_pos rfl] at hf
  intro j s hj
  have oV:=(List.getElem?_eq_some_iff.1 hj).1
  have hr:=AG (x:=j) oZ hf hn
  refine gZ bW (by rw [bx _ (Nat.mod_lt _ oZ)];omega) (fun b' hb => ?_) ((hm _ _ _).2 (by rw [if_pos rfl];exact ⟨j,hj,rfl,rfl⟩))
  have hb:=(hm _ _ _).1 hb
  rw [if_pos rfl] at hb
  obtain ⟨j',h1,h2,h3⟩:=hb
  have:=wA h2 oZ
  obtain rfl:j=j':=by omega
  rw [hj] at h1;exact (Option.some.inj h1).symm
 | false =>
  rw [oJ,if_neg (by simp)]
  rw [if_neg (by simp)] at hl
  rw [bD,if_neg (by simp)] at hf
  intro i hi j s hj
  have oV:=(List.getElem?_eq_some_iff.1 hj).1
  refine gZ bW (by rw [bx _ hi];omega) (fun b' hb => ?_) ((hm _ _ _).2 (by rw [if_neg (by simp)];exact ⟨hi,j,hj,rfl⟩))
  have hb:=(hm _ _ _).1 hb
  rw [if_neg (by simp)] at hb
  obtain ⟨-,j',h1,h3⟩:=hb
  obtain rfl:j=j':=by omega
  rw [hj] at h1;exact (Option.some.inj h1).symm
theorem Hg (hI:wm ls)(hp:pr=true->3<=ls.length){at':Nat}{b':List UInt8}(hd:at_+aN pr ls.length b.length<=at'\/at'+aN pr ls.length b'.length<=at_)(h:oJ pr ls.length R at_ b):oJ pr ls.length (R.run (sS pr ls at' b')) at_ b:=by
 have hl:=aj hp b
 have lT:=aj hp b'
 have hm:=fun (i a:Nat) (s:eF)=>Au hI (pr:=pr) (at_:=at') (bs:=b') (fun h=>by have:=hp h;omega) (i:=i) (a:=a) (b:=s)
 cases pr with
 | true =>
  have:=hp rfl
  rw [oJ,if_pos rfl] at h ⊢
  rw [if_pos rfl] at hl lT
  intro j s hj
  have oV:=(List.getElem?_eq_some_iff.1 hj).1
  rw [bJ fun b2 hb => ?_]
  ·exact h j s hj
  ·have hb:=(hm _ _ _).1 hb
   rw [if_pos rfl] at hb
   obtain ⟨j',h1,h2,h3⟩:=hb
   have aeF:=(List.getElem?_eq_some_iff.1 h1).1
   have:=wA h2 oZ
   omega
 | false =>
  rw [oJ,if_neg (by simp)] at h ⊢
  rw [if_neg (by simp)] at hl lT
  intro i hi j s hj
  have oV:=(List.getElem?_eq_some_iff.1 hj).1
  rw [bJ fun b2 hb => ?_]
  ·exact h i hi j s hj
  ·have hb:=(hm _ _ _).1 hb
   rw [if_neg (by simp)] at hb
   obtain ⟨-,j',h1,h3⟩:=hb
   have aeF:=(List.getElem?_eq_some_iff.1 h1).1
   omega
theorem ZU (hI:wm ls)(hn:324<=n)(hp:pr=true->3<=ls.length)(hf:at_+aN pr ls.length b.length<=bD pr ls.length n){i a:Nat}{s:eF}(h:Ev.w i a s∈sS pr ls at_ b):i<ls.length/\274<=a/\a<n - 18:=by
 have hl:=aj hp b
 have h:=(Au hI (pr:=pr) (at_:=at_) (bs:=b) (fun h=>by have:=hp h;omega)).1 h
 cases pr with
 | true =>
  have:=hp rfl
  rw [if_pos rfl] at h hl
  rw [bD,if_pos rfl] at hf
  obtain ⟨j,h1,rfl,rfl⟩:=h
  have oV:=(List.getElem?_eq_some_iff.1 h1).1
  exact ⟨Nat.mod_lt _ oZ,Nat.le_add_right _ _,AG oZ hf hn⟩
 | false =>
  rw [if_neg (by simp)] at h hl
  rw [bD,if_neg (by simp)] at hf
  obtain ⟨hi,j,h1,rfl⟩:=h
  have oV:=(List.getElem?_eq_some_iff.1 h1).1
  exact ⟨hi,by omega,by omega⟩
end
set_option maxRecDepth 10000
structure dv where
 x:Pt
 b:List UInt8
 g:List Pt
section
variable (pr:Bool)(w n:Nat)
structure sE (R:Rk)(e:dv):Prop where
 dY:e.x.dY
 ok:e.x.Ok
 top:e.x.top=0
 len:e.x.bytes=e.b.length
 bd:1<=e.b.length/\e.b.length<=1024
 at_:e.x.at_=((aM (aN pr w 1024) e.x*aN pr w 1024:Nat):Int)
 fit:(aM (aN pr w 1024) e.x+1)*aN pr w 1024<=bD pr w n
 sum:sM e.x.kind ⟨e.x.a,e.x.b,e.x.c,e.x.d⟩ e.b=true
 has:oJ pr w R (aM (aN pr w 1024) e.x*aN pr w 1024) e.b
structure dT (R:Rk)(pm:List dv):Prop where
 Hh:∀e∈pm,sE pr w n R e
 inj:pm.Pairwise fun e f=>aM (aN pr w 1024) e.x≠aM (aN pr w 1024) f.x
end
structure qk (n:Nat)(R R':Rk):Prop where
 on:R'.on
 now:∀i a,(a<274\/n - 18<=a)->R'.now i a=R.now i a
 pl:∀i a,R'.pl i a=R.pl i a
 size:∀i,R'.size i=R.size i
 live:∀i,R'.live i↔R.live i
theorem qk.rfl {n:Nat}{R:Rk}(h:R.on):qk n R R:=⟨h,fun _ _ _=>Eq.refl _,fun _ _=>Eq.refl _,fun _=>Eq.refl _,fun _=>Iff.rfl⟩
theorem qk.trans {n:Nat}{R S T:Rk}(h:qk n R S)(k:qk n S T):qk n R T:=⟨k.on,fun i a c=>(k.now i a c).trans (h.now i a c),fun i a=>(k.pl i a).trans (h.pl i a),fun i=>(k.size i).trans (h.size i),fun i=>(k.live i).trans (h.live i)⟩
theorem AH {α:Type}{r:α->α->Prop}{l:List α}{x:α}(h:l.Pairwise r)(k:∀y∈l,r y x):(l++[x]).Pairwise r:=by
 rw [List.pairwise_append]
 exact ⟨h,List.pairwise_singleton _ _,fun y hy z hz=>by rw [List.mem_singleton.1 hz];exact k y hy⟩
section
variable {pr:Bool}{w n:Nat}{R R':Rk}{pm:List dv}{e f:dv}
theorem dT.one (h:dT pr w n R pm)(he:e∈pm)(hf:f∈pm)(hx:aM (aN pr w 1024) e.x=aM (aN pr w 1024) f.x):e=f:=by
 obtain ⟨i,hi,rfl⟩:=List.getElem_of_mem he
 obtain ⟨j,hj,rfl⟩:=List.getElem_of_mem hf
 have g:=List.pairwise_iff_getElem.1 h.inj
 rcases Nat.lt_trichotomy i j with c | c | c
 ·exact absurd hx (g i j hi hj c)
 ·subst c;rfl
 ·exact absurd hx.symm (g j i hj hi c)
theorem sE.room (h:sE pr w n R e)(hw:1<=w/\w<=5)(hp:pr=true->3<=w):aM (aN pr w 1024) e.x*aN pr w 1024+aN pr w e.b.length<=bD pr w n:=by
 have h1:=h.fit
 rw [Nat.succ_mul] at h1
 have:=p5 (pr:=pr) (w:=w) (b:=e.b.length) hw hp h.bd.2
 omega
theorem sE.congr (h:sE pr w n R e)(hn:324<=n)(hw:1<=w/\w<=5)(hp:pr=true->3<=w)(hR:∀i,i<w->∀a,274<=a->a<n - 18->R'.now i a=R.now i a):sE pr w n R' e :=
 ⟨h.dY,h.ok,h.top,h.len,h.bd,h.at_,h.fit,h.sum,Hf hn hp (h.room hw hp) hR h.has⟩
theorem dT.congr (h:dT pr w n R pm)(hn:324<=n)(hw:1<=w/\w<=5)(hp:pr=true->3<=w)(hR:∀i,i<w->∀a,274<=a->a<n - 18->R'.now i a=R.now i a):dT pr w n R' pm:=⟨fun e he=>(h.Hh e he).congr hn hw hp hR,h.inj⟩
theorem dT.filter (h:dT pr w n R pm)(q:dv->Bool):dT pr w n R (pm.filter q):=⟨fun e he=>h.Hh e (List.mem_filter.1 he).1,h.inj.sublist List.filter_sublist⟩
theorem sE.Ql {ls:List (Option Lv)}(hI:wm ls)(h:sE pr ls.length n R e)(hn:324<=n)(hw:1<=ls.length/\ls.length<=5)(hp:pr=true->3<=ls.length)(bx:∀i,i<ls.length->R.size i=n):KC R ls pr n e.x e.b:=by
 have hr:=h.room hw hp
 have gh:e.x.at_.toNat=aM (aN pr ls.length 1024) e.x*aN pr ls.length 1024:=by rw [h.at_];exact Int.toNat_natCast _
 exact ⟨h.dY,h.ok,h.top,h.len,h.bd,by rw [h.at_];omega,h.sum,by rw [gh];exact QA hI hn bx hr h.has⟩
end
theorem Lj {m k gt:Nat}{b:List UInt8}(hm:0<m):aM m (Gm (k*m) gt b 2)=k:=by
 unfold aM Gm
 simp only [Int.natCast_mul]
 rw [Int.mul_ediv_cancel _ oZ,Int.toNat_natCast]
structure QB (pr:Bool)(n:Nat)(ls:List (Option Lv))(P:PS)(pm:List dv):Prop where
 on:P.R.on
 sz:∀i,i<ls.length->P.R.size i=n
 po:dT pr ls.length n P.R pm
 dd:∀e∈pm,aM (aN pr ls.length 1024) e.x∈P.x.D
 nd:P.x.D.Nodup
structure Grow (pr:Bool)(n gt:Nat)(ls:List (Option Lv))(P:PS)(pm:List dv)(P':PS)(nw:List dv):Prop where
 w7:QB pr n ls P' (pm++nw)
 dat:qk n P.R P'.R
 ds:∀k∈P'.x.D,k∈P.x.D\/∃e∈nw,aM (aN pr ls.length 1024) e.x=k
 bj:∀e∈nw,e.x.bj=gt
 fr:∀e∈nw,aM (aN pr ls.length 1024) e.x∉P.x.D
 sub:∀k∈P.x.D,k∈P'.x.D
section
variable {pr:Bool}{n gt:Nat}{ls:List (Option Lv)}{P P1 P':PS}{pm n1 n2:List dv}
theorem Grow.rfl (h:QB pr n ls P pm):Grow pr n gt ls P pm P []:=⟨by rw [List.append_nil];exact h,.rfl h.on,fun k hk=>.inl hk,(fun _ h=>by cases h),(fun _ h=>by cases h),fun _ h=>h⟩
theorem Grow.trans (h:Grow pr n gt ls P pm P1 n1)(k:Grow pr n gt ls P1 (pm++n1) P' n2):Grow pr n gt ls P pm P' (n1++n2):=by
 refine ⟨by rw [<-List.append_assoc];exact k.w7,h.dat.trans k.dat,fun x hx => ?_,fun e he=>(List.mem_append.1 he).elim (h.bj e) (k.bj e),fun e he => ?_,fun x hx=>k.sub x (h.sub x hx)⟩
 rcases k.ds x hx with hx | ⟨e,he,hx⟩
 ·rcases h.ds x hx with hx | ⟨e,he,hx⟩
  ·exact .inl hx
  ·exact .inr ⟨e,List.mem_append_left _ he,hx⟩
 ·exact .inr ⟨e,List.mem_append_right _ he,hx⟩
 ·rcases List.mem_append.1 he with he | he
  ·exact h.fr e he
  ·exact fun c=>k.fr e he (h.sub _ c)
variable (hI:wm ls)(hn:324<=n/\n<=2048)(hw:1<=ls.length/\ls.length<=5)(hp:pr=true->3<=ls.length)(ib:1<=gt/\gt<=281474976710656)
include hI hn hw hp ib
theorem l4.grow {b:List UInt8}{pt:Pt}(h:l4 pr ls n gt P b P' pt)(hs:QB pr n ls P pm)(hb:b.length<=1024)(g:List Pt):(pt=ah/\bp b=true/\P'=P)\/(pt≠ah/\bp b=false/\Grow pr n gt ls P pm P' [⟨pt,b,g⟩]):=by
 rcases h with ⟨h1,h2,h3⟩ | ⟨h1,k,hk,jz,rfl,rfl⟩
 ·exact .inl ⟨h3,h1,h2⟩
 ·right
  have hm:=(sv pr hw hp).1
  have hz:=iA pr hw hn
  have Dc:(k+1)*aN pr ls.length 1024<=bD pr ls.length n:=by
   have:(((k+1)*aN pr ls.length 1024:Nat):Int)<=(bD pr ls.length n:Nat):=by rw [Int.natCast_mul];exact jz
   omega
  have afW:k*aN pr ls.length 1024+aN pr ls.length 1024<=bD pr ls.length n:=by rw [Nat.succ_mul] at Dc;exact Dc
  have KV:=p5 (pr:=pr) (w:=ls.length) (b:=b.length) hw hp hb
  have Ba:1<=b.length:=by
   cases b with
   | nil=>cases h1
   | cons _ _=>simp
  obtain ⟨p1,p2, -,p4⟩:=P6 (at_:=k*aN pr ls.length 1024) (gt:=gt) (b:=b) oZ ⟨Ba,hb⟩ ib
  have uw:=Lj (m:=aN pr ls.length 1024) (k:=k) (gt:=gt) (b:=b) oZ
  have jC:=fun i a s=>ZU (i:=i) (a:=a) (s:=s) (pr:=pr) (at_:=k*aN pr ls.length 1024) (b:=b) hI hn.1 hp oZ
  refine ⟨p4,h1,⟨⟨hs.on.run _,fun i hi=>by rw [Rk.dj];exact hs.sz i hi,⟨fun e he => ?_, ?_⟩,fun e he => ?_,List.nodup_cons.2 ⟨hk,hs.nd⟩⟩,⟨hs.on.run _,fun i a ha => ?_,fun i a=>G4 fun d=>PY,fun i=>Rk.dj ..,fun i=>Rk.eh ..⟩,fun j hj => ?_,fun e he => ?_,fun e he => ?_,fun j hj=>List.mem_cons_of_mem _ hj⟩⟩
  ·rcases List.mem_append.1 he with he | he
   ·have ho:=hs.po.Hh e he
    have eP:aM (aN pr ls.length 1024) e.x≠k:=fun c=>hk (c ▸ hs.dd e he)
    have afX:=p5 (pr:=pr) (w:=ls.length) (b:=e.b.length) hw hp ho.bd.2
    refine ⟨ho.dY,ho.ok,ho.top,ho.len,ho.bd,ho.at_,ho.fit,ho.sum,Hg hI hp ?_ ho.has⟩
    rcases Nat.lt_or_gt_of_ne eP with c | c
    ·left
     have:=Nat.mul_le_mul_right (aN pr ls.length 1024) (show aM (aN pr ls.length 1024) e.x+1<=k from c)
     rw [Nat.succ_mul] at this;omega
    ·right
     have:=Nat.mul_le_mul_right (aN pr ls.length 1024) (show k+1<=aM (aN pr ls.length 1024) e.x from c)
     rw [Nat.succ_mul] at this;omega
   ·obtain rfl:=List.mem_singleton.1 he
    refine ⟨p1,p2,rfl,rfl,⟨Ba,hb⟩,by rw [uw];rfl,by rw [uw];exact Dc, ?_,by rw [uw];exact Li hI hs.on hn.1 hp hs.sz oZ⟩
    exact JN (.inr rfl) b
  ·refine AH hs.po.inj fun e he => ?_
   rw [uw]
   exact fun c=>hk (c ▸ hs.dd e he)
  ·rcases List.mem_append.1 he with he | he
   ·exact List.mem_cons_of_mem _ (hs.dd e he)
   ·rw [List.mem_singleton.1 he,uw];exact List.mem_cons_self ..
  ·exact bJ fun s LR=>by have:=jC i a s LR;omega
  ·rcases List.mem_cons.1 hj with rfl | hj
   ·exact .inr ⟨_,List.mem_singleton.2 rfl,uw⟩
   ·exact .inl hj
  ·rw [List.mem_singleton.1 he];rfl
  ·rw [List.mem_singleton.1 he,uw];exact hk
end
def cB (l:List Pt)(i:Nat):Pt:=(l[i]?).getD ah
theorem UJ (l:List Pt)(k i:Nat):cB (oE l k) i=cB l i:=by
 unfold cB oE
 by_cases c:i<l.length
 ·rw [List.getElem?_append_left c]
 ·rw [List.getElem?_append_right oZ,List.getElem?_replicate,List.getElem?_eq_none oZ]
  split <;> rfl
theorem UK {l:List Pt}{k:Nat}(p:Pt)(i:Nat)(h:k<l.length):cB (l.set k p) i=if i=k then p else cB l i:=by
 unfold cB
 by_cases c:i=k
 ·subst c;rw [if_pos rfl,List.getElem?_set_self h];rfl
 ·rw [if_neg c,List.getElem?_set_ne (fun e=>c e.symm)]
theorem lI {l:List Pt}{i:Nat}:cB l i=ah\/cB l i∈l:=by
 unfold cB
 cases h:l[i]? with
 | none=>exact .inl rfl
 | some x=>exact .inr (List.mem_of_getElem? h)
theorem Hi {l:List Pt}{x:Pt}(h:x∈l):∃i,i<l.length/\cB l i=x:=by
 obtain ⟨i,hi,rfl⟩:=List.getElem_of_mem h
 exact ⟨i,hi,by unfold cB;rw [List.getElem?_eq_getElem hi];rfl⟩
theorem iE {l:List Pt}{i:Nat}(h:l.length<=i):cB l i=ah:=by unfold cB;rw [List.getElem?_eq_none h];rfl
theorem Er (l:List Pt)(x:Pt)(i:Nat):cB (l++[x]) i=if i=l.length then x else cB l i:=by
 unfold cB
 by_cases c:i<l.length
 ·rw [List.getElem?_append_left c,if_neg oZ]
 ·by_cases d:i=l.length
  ·subst d;rw [if_pos rfl];simp
  ·rw [if_neg d,List.getElem?_append_right oZ,List.getElem?_eq_none (by simp;omega),List.getElem?_eq_none oZ]
theorem wB:di ah=List.replicate 64 0:=by decide
theorem Es {x:Pt}(h:fy x=0)(ho:x.Ok)(hb:∀y∈di x,y=0):x=ah:=by
 have e:di x=di ah:=by
  rw [wB,List.eq_replicate_iff]
  exact ⟨aZ x,hb⟩
 have e1:=oc h ho
 rw [e,oc (by simp [fy]) dw] at e1
 exact e1.symm
theorem wC {l:List Pt}(h:∀x∈l,fy x=0/\x.Ok):bp (fR l)=true↔∀x∈l,x=ah:=by
 rw [fu]
 constructor
 ·intro hb x hx
  exact Es (h x hx).1 (h x hx).2 fun y hy=>hb y (List.mem_flatMap.2 ⟨x,hx,hy⟩)
 ·intro hz y hy
  obtain ⟨x,hx,hy⟩:=List.mem_flatMap.1 hy
  rw [hz x hx,wB] at hy
  exact List.eq_of_mem_replicate hy
theorem hY (b:List UInt8):bp (eg b)=bp b:=by
 cases h:bp b with
 | true=>rw [Ck h];rfl
 | false=>rw [mw h];exact h
structure Std (pm:List dv)(o:Ob):Prop where
 ok:fy o.root=0/\o.root.Ok
 top:(o.root=ah/\(∀i,cB o.ay i=ah)/\∀x∈o.index,x=ah) \/
  (o.root≠ah/\∃lv:List Pt,o.index=lv++[o.root]/\1<=lv.length/\lv.length<=4/\o.ay.length<=16*lv.length/\(∃e∈pm,e.x=o.root/\e.b=fR lv/\e.g=lv)/\(∀y∈lv,fy y=0/\y.Ok) /\
   ∀j,j<lv.length->(cB lv j=ah/\∀i,i<16->cB o.ay (16*j+i)=ah)\/(cB lv j≠ah/\∃e∈pm,e.x=cB lv j/\e.b=fR e.g/\1<=e.g.length/\e.g.length<=16/\(j+1<lv.length->e.g.length=16)/\(∀y∈e.g,fy y=0/\y.Ok)/\∀i,i<16->cB e.g i=cB o.ay (16*j+i)))
theorem Std.mono {pm jV:List dv}{o:Ob}(h:Std pm o)(hs:∀e∈pm,e.x∈o.index->e∈jV):Std jV o:=by
 refine ⟨h.ok, ?_⟩
 rcases h.top with h | ⟨h1,lv,h2,h3,h4,h5,⟨e,he,e1,e2,e3⟩,h6,h7⟩
 ·exact .inl h
 ·refine .inr ⟨h1,lv,h2,h3,h4,h5,⟨e,hs e he (by rw [e1,h2];simp),e1,e2,e3⟩,h6,fun j hj => ?_⟩
  rcases h7 j hj with h | ⟨g1,e,he,g2,g3⟩
  ·exact .inl h
  ·refine .inr ⟨g1,e,hs e he ?_,g2,g3⟩
   rw [g2,h2]
   rcases lI (l:=lv) (i:=j) with c | c
   ·exact absurd c g1
   ·exact List.mem_append_left _ c
section
variable {pr:Bool}{n gt:Nat}{ls:List (Option Lv)}{P P':PS}{pm:List dv}
variable (hI:wm ls)(hn:324<=n/\n<=2048)(hw:1<=ls.length/\ls.length<=5)(hp:pr=true->3<=ls.length)(ib:1<=gt/\gt<=281474976710656)
include hI hn hw hp ib
theorem jT.grow {bs:List (List UInt8)}{ps:List Pt}(h:jT pr ls n gt P bs P' ps)(hs:QB pr n ls P pm)(hb:∀b∈bs,b.length<=1024)(gs:Nat->List Pt) :
  ∃nw,Grow pr n gt ls P pm P' nw/\(∀e∈nw,e.x∈ps)/\ps.length=bs.length/\(∀x∈ps,x=ah\/∃e∈nw,e.x=x)/\∀(i:Nat) (b:List UInt8),bs[i]? = some b->(cB ps i=ah/\bp b=true)\/(cB ps i≠ah/\bp b=false/\∃e∈nw,e.x=cB ps i/\e.b=b/\e.g=gs i):=by
 induction h with
 | nil=>exact ⟨[],.rfl hs,(fun _ h=>by cases h),rfl,(fun _ h=>by cases h),(fun i b h=>by simp at h)⟩
 | @snoc bs P1 P2 ps b pt h1 h2 ih =>
  obtain ⟨nw,g1,g2,g3,g4,g5⟩:=ih fun b Ji=>hb b (List.mem_append_left _ Ji)
  have gh:∀(i:Nat) (b':List UInt8),(bs++[b])[i]? = some b'->(i<bs.length/\bs[i]? = some b')\/(i=ps.length/\b'=b):=fun i b' h=>by
   by_cases c:i<bs.length
   ·rw [List.getElem?_append_left c] at h;exact .inl ⟨c,h⟩
   ·rw [List.getElem?_append_right oZ] at h
    have:=(List.getElem?_eq_some_iff.1 h).1
    simp only [List.length_cons,List.length_nil] at this
    have e:i - bs.length=0:=by omega
    rw [e] at h
    simp at h
    exact .inr ⟨by omega,h.symm⟩
  rcases h2.grow hI hn hw hp ib g1.w7 (hb b (by simp)) (gs ps.length) with ⟨k1,k2,rfl⟩ | ⟨k1,k2,k3⟩
  ·refine ⟨nw,g1,(fun e he=>List.mem_append_left _ (g2 e he)),by simp [g3],fun x hx => ?_,fun i b' h => ?_⟩
   ·rcases List.mem_append.1 hx with hx | hx
    ·exact g4 x hx
    ·rw [List.mem_singleton.1 hx];exact .inl k1
   ·rw [Er]
    rcases gh i b' h with ⟨c1,c2⟩ | ⟨rfl,rfl⟩
    ·rw [if_neg oZ];exact g5 i b' c2
    ·rw [if_pos rfl];exact .inl ⟨k1,k2⟩
  ·refine ⟨nw++[⟨pt,b,gs ps.length⟩],g1.trans k3,(fun e he=>(List.mem_append.1 he).elim (fun he=>List.mem_append_left _ (g2 e he)) fun he=>by rw [List.mem_singleton.1 he];simp),by simp [g3],fun x hx => ?_,fun i b' h => ?_⟩
   ·rcases List.mem_append.1 hx with hx | hx
    ·rcases g4 x hx with c | ⟨e,he,c⟩
     ·exact .inl c
     ·exact .inr ⟨e,List.mem_append_left _ he,c⟩
    ·rw [List.mem_singleton.1 hx];exact .inr ⟨_,List.mem_append_right _ (List.mem_singleton.2 rfl),rfl⟩
   ·rw [Er]
    rcases gh i b' h with ⟨c1,c2⟩ | ⟨rfl,rfl⟩
    ·rw [if_neg oZ]
     rcases g5 i b' c2 with c | ⟨c3,c4,e,he,c5⟩
     ·exact .inl c
     ·exact .inr ⟨c3,c4,e,List.mem_append_left _ he,c5⟩
    ·rw [if_pos rfl];exact .inr ⟨k1,k2,_,List.mem_append_right _ (List.mem_singleton.2 rfl),rfl,rfl,rfl⟩
theorem qd.grow {l idx:List Pt}{root:Pt}(h:qd pr ls n gt P P' l idx root)(hs:QB pr n ls P pm)(hl:l.length<=64)(Bi:∀x∈l,fy x=0/\x.Ok)(o:Ob) :
  ∃nw,Grow pr n gt ls P pm P' nw/\(∀e∈nw,e.x∈idx)/\Std (pm++nw) { o with root:=root,ay:=l,index:=idx }/\idx.length<=5/\idx.length<=xa l.length/\∀x∈idx,x=ah\/∃e∈nw,e.x=x:=by
 have hz:=(iA pr hw hn).2
 rcases h with ⟨rfl,rfl,rfl,rfl⟩ | ⟨RD,level,P1,h1,h2,rfl⟩
 ·exact ⟨[],.rfl hs,(fun _ h=>by cases h),⟨⟨by simp [fy],dw⟩,.inl ⟨rfl,fun i=>iE (Nat.zero_le _),fun _ h=>by cases h⟩⟩,by simp,by simp,fun _ h=>by cases h⟩
 ·obtain ⟨nw,g1,g2,g3,g4,g5⟩:=jT.grow hI hn hw hp ib h1 hs Eh fun j=>(l.drop (j*16)).take 16
  rw [rL] at g3
  have iK:1<=l.length:=List.length_pos_iff.2 RD
  have hnc:1<=cY l.length 16/\cY l.length 16<=4/\l.length<=16*cY l.length 16:=by unfold cY;omega
  have ek:∀j,j<cY l.length 16->16*j<l.length:=fun j hj=>by unfold cY at hj;omega
  have hov:xa l.length=cY l.length 16+1:=by unfold xa;rw [if_neg oZ]
  have Fa:∀j,j<cY l.length 16->(kD l)[j]? = some (eg (fR ((l.drop (j*16)).take 16))):=fun j hj=>by
   have hj2:j<(jl 16 l).length:=by rw [dA];exact hj
   rw [kD,List.getElem?_map,List.getElem?_eq_getElem hj2,lu];rfl
  have lS:∀j,∀x∈(l.drop (j*16)).take 16,fy x=0/\x.Ok:=fun j x hx=>Bi x (List.mem_of_mem_drop (List.mem_of_mem_take hx))
  have qE:∀j i,i<16->cB ((l.drop (j*16)).take 16) i=cB l (16*j+i):=fun j i hi=>by
   unfold cB
   rw [List.getElem?_take,if_pos hi,List.getElem?_drop,Nat.mul_comm j 16]
  have abV:∀y∈level,fy y=0/\y.Ok:=fun y hy=>by
   rcases g4 y hy with rfl | ⟨e,he,rfl⟩
   ·exact ⟨by simp [fy],dw⟩
   ·have:=g1.w7.po.Hh e (List.mem_append_right _ he)
    exact ⟨by unfold fy;split <;> first | rfl | rw [if_pos this.dY],this.ok⟩
  have hlz:∀j,j<level.length->cB level j=ah->∀i,i<16->cB l (16*j+i)=ah:=fun j hj h0 i hi=>by
   rcases g5 j _ (Fa j oZ) with ⟨-,c⟩ | ⟨c, -⟩
   ·rw [hY,wC (lS j)] at c
    rw [<-qE j i hi]
    rcases lI (l:=(l.drop (j*16)).take 16) (i:=i) with d | d
    ·exact d
    ·exact c _ d
   ·exact absurd h0 c
  have cV:(eg (fR level)).length<=1024:=by have:=mO (fR level);rw [jm] at this;omega
  rcases h2.grow hI hn hw hp ib g1.w7 cV level with ⟨rfl,k2,rfl⟩ | ⟨k1,k2,k3⟩
  ·rw [hY,wC abV] at k2
   refine ⟨nw,g1,(fun e he=>List.mem_append_left _ (g2 e he)),⟨⟨by simp [fy],dw⟩,.inl ⟨rfl,fun i => ?_,fun x hx => ?_⟩⟩,by simp;omega,by simp;omega,fun x hx => ?_⟩
   ·by_cases c:i<l.length
    ·have hj:i / 16<level.length:=by omega
     have h0:cB level (i / 16)=ah:=by
      rcases lI (l:=level) (i:=i / 16) with d | d
      ·exact d
      ·exact k2 _ d
     have:=hlz _ hj h0 (i % 16) (Nat.mod_lt _ oZ)
     rwa [show 16*(i / 16)+i % 16=i by omega] at this
    ·exact iE (by simp only;omega)
   ·rcases List.mem_append.1 hx with hx | hx
    ·exact k2 x hx
    ·exact List.mem_singleton.1 hx
   ·rcases List.mem_append.1 hx with hx | hx
    ·exact g4 x hx
    ·exact .inl (List.mem_singleton.1 hx)
  ·rw [hY] at k2
   rw [mw k2] at k3
   have RH:=k3.w7.po.Hh _ (List.mem_append_right _ (List.mem_singleton.2 rfl))
   refine ⟨nw++[⟨root,fR level,level⟩],g1.trans k3,(fun e he=>(List.mem_append.1 he).elim (fun he=>List.mem_append_left _ (g2 e he)) fun he=>by rw [List.mem_singleton.1 he];simp),⟨⟨by unfold fy;split <;> first | rfl | rw [if_pos RH.dY],RH.ok⟩,.inr ⟨k1,level,rfl,by omega,by omega,by simp only;omega,⟨_,List.mem_append_right _ (List.mem_append_right _ (List.mem_singleton.2 rfl)),rfl,rfl,rfl⟩,abV,fun j hj => ?_⟩⟩,by simp;omega,by simp;omega,fun x hx => ?_⟩
   ·rcases g5 j _ (Fa j oZ) with ⟨c, -⟩ | ⟨c,c2,e,he,c3,c4,c5⟩
    ·exact .inl ⟨c,hlz j hj c⟩
    ·rw [hY] at c2
     rw [mw c2] at c4
     refine .inr ⟨c,e,List.mem_append_right _ (List.mem_append_left _ he),c3,by rw [c4,c5], ?_, ?_,fun hj2 => ?_,by rw [c5];exact lS j,fun i hi=>by rw [c5];exact qE j i hi⟩
     ·rw [c5,List.length_take,List.length_drop];have:=ek j oZ;omega
     ·rw [c5,List.length_take];omega
     ·rw [c5,List.length_take,List.length_drop];have:=ek (j+1) oZ;omega
   ·rcases List.mem_append.1 hx with hx | hx
    ·rcases g4 x hx with c | ⟨e,he,c⟩
     ·exact .inl c
     ·exact .inr ⟨e,List.mem_append_left _ he,c⟩
    ·rw [List.mem_singleton.1 hx];exact .inr ⟨_,List.mem_append_right _ (List.mem_singleton.2 rfl),rfl⟩
end
def Hj (N:Nat):Nat:=16*cY N 16
structure de (pm:List dv)(N:Nat)(o:Ob):Prop where
 ptr:∀x∈o.ay,x=ah\/∃e∈pm,e.x=x
 fk:∀e∈o.fresh,0<=e.1/\e.1<N/\e.2.length<=1024
 fn:(o.fresh.map (·.1)).Nodup
 pl:o.ay.length<=Hj N
 pz:∀i,N<=i->cB o.ay i=ah
 il:o.index.length<=5
 sz:N<=64
 rt:fy o.root=0/\o.root.Ok
 cl:o.clean=true->o.fresh=[]/\Std pm o/\o.index.length<=xa (Hj N)/\∀x∈o.index,x=ah\/∃e∈pm,e.x=x
theorem rN {N:Nat}(h:N<=64):Hj N<=64/\N<=Hj N:=by unfold Hj cY;omega
theorem de.jE {pm:List dv}{N:Nat}{o:Ob}(h:de pm N o):o.fresh.length<=N/\o.fresh.length<=64:=by
 have h1:(o.fresh.map (·.1)).length<=((List.range N).map fun (i:Nat)=>(i:Int)).length:=by
  refine fv h.fn fun k hk => ?_
  obtain ⟨e,he,rfl⟩:=List.mem_map.1 hk
  have:=h.fk e he
  exact List.mem_map.2 ⟨e.1.toNat,by simp;omega,by omega⟩
 simp only [List.length_map,List.length_range] at h1
 have:=rN h.sz
 omega
theorem I2 {pr:Bool}{w n:Nat}{R:Rk}{pm:List dv}(fY:dT pr w n R pm){x:Pt}(h:x=ah\/∃e∈pm,e.x=x):fy x=0/\x.Ok:=by
 rcases h with rfl | ⟨e,he,rfl⟩
 ·exact ⟨by simp [fy],dw⟩
 ·have:=fY.Hh e he
  exact ⟨by unfold fy;split <;> first | rfl | rw [if_pos this.dY],this.ok⟩
theorem de.ZV {pr:Bool}{w n N:Nat}{R:Rk}{pm:List dv}{o:Ob}(h:de pm N o)(fY:dT pr w n R pm):Le (Hj N) o:=by
 have h1:=rN h.sz
 exact ⟨fun e he=>by have:=h.fk e he;omega,h.jE.2,h.pl,fun x hx=>I2 fY (h.ptr x hx),h.il,h.rt⟩
structure sX (pm nw:List dv)(N:Nat)(o o':Ob):Prop where
 used:o'.used=o.used
 size:o'.size=o.size
 clean:o'.clean=true
 cZ:∀i:Nat,aH o.fresh (i:Int)=none->cB o'.ay i=cB o.ay i
 put:∀(i:Nat) (b:List UInt8),aH o.fresh (i:Int)=some b->(cB o'.ay i=ah/\bp b=true)\/(cB o'.ay i≠ah/\bp b=false/\∃e∈nw,e.x=cB o'.ay i/\e.b=b)
 RU:de (pm++nw) N o'
theorem Std.app {pm nw:List dv}{o:Ob}(h:Std pm o):Std (pm++nw) o:=h.mono fun _ he _=>List.mem_append_left _ he
theorem de.app {pm nw:List dv}{N:Nat}{o:Ob}(h:de pm N o):de (pm++nw) N o:=by
 have hm:∀x:Pt,(x=ah\/∃e∈pm,e.x=x)->x=ah\/∃e∈pm++nw,e.x=x:=fun x c=>by
  rcases c with c | ⟨e,he,c⟩
  ·exact .inl c
  ·exact .inr ⟨e,List.mem_append_left _ he,c⟩
 exact ⟨fun x hx=>hm x (h.ptr x hx),h.fk,h.fn,h.pl,h.pz,h.il,h.sz,h.rt,fun c=>⟨(h.cl c).1,(h.cl c).2.1.app,(h.cl c).2.2.1,fun x hx=>hm x ((h.cl c).2.2.2 x hx)⟩⟩
theorem sX.app {pm n1 n2:List dv}{N:Nat}{o o':Ob}(h:sX pm n1 N o o'):sX pm (n1++n2) N o o':=by
 refine ⟨h.used,h.size,h.clean,h.cZ,fun i b hb => ?_,by rw [<-List.append_assoc];exact h.RU.app⟩
 rcases h.put i b hb with c | ⟨c1,c2,e,he,c3⟩
 ·exact .inl c
 ·exact .inr ⟨c1,c2,e,List.mem_append_left _ he,c3⟩
theorem sX.pre {pm n1 n2:List dv}{N:Nat}{o o':Ob}(h:sX (pm++n1) n2 N o o'):sX pm (n1++n2) N o o':=by
 refine ⟨h.used,h.size,h.clean,h.cZ,fun i b hb => ?_,by rw [<-List.append_assoc];exact h.RU⟩
 rcases h.put i b hb with c | ⟨c1,c2,e,he,c3⟩
 ·exact .inl c
 ·exact .inr ⟨c1,c2,e,List.mem_append_right _ he,c3⟩
section
variable {pr:Bool}{n gt:Nat}{ls:List (Option Lv)}{P P':PS}{pm:List dv}
variable (hI:wm ls)(hn:324<=n/\n<=2048)(hw:1<=ls.length/\ls.length<=5)(hp:pr=true->3<=ls.length)(ib:1<=gt/\gt<=281474976710656)
include hI hn hw hp ib
theorem Mh.grow {fresh:List (Int×List UInt8)}{l0 l1:List Pt}{ks:List Int}(h:Mh pr ls n gt fresh P l0 ks P' l1)(hs:QB pr n ls P pm)(hf:∀e∈fresh,0<=e.1/\e.2.length<=1024)(Ff:ks.Nodup) :
  ∃nw,Grow pr n gt ls P pm P' nw/\(∀e∈nw,∃k∈ks,e.x=cB l1 k.toNat)/\(∀i:Nat,(i:Int)∉ks->cB l1 i=cB l0 i)/\(∀k∈ks,∃b,aH fresh k=some b/\((cB l1 k.toNat=ah/\bp b=true)\/(cB l1 k.toNat≠ah/\bp b=false/\∃e∈nw,e.x=cB l1 k.toNat/\e.b=b)))/\∀x∈l1,x=ah\/x∈l0\/∃e∈nw,e.x=x:=by
 induction h with
 | nil=>exact ⟨[],.rfl hs,(fun _ h=>by cases h),(fun _ _=>rfl),(fun _ h=>by cases h),(fun x hx=>.inr (.inl hx))⟩
 | @snoc ks P1 P2 l1 k b pt h1 h2 h3 ih =>
  rw [List.nodup_append] at Ff
  obtain ⟨nw,g1,g0,g2,g3,g4⟩:=ih Ff.1
  have hb:=hf _ (aI h2)
  have Dc:(k.toNat:Int)=k:=by have:=hb.1;simp only at this;omega
  have hlen:k.toNat<(oE l1 k.toNat).length:=by rw [Ei];omega
  have sV:∀i,cB ((oE l1 k.toNat).set k.toNat pt) i=if i=k.toNat then pt else cB l1 i:=fun i=>by rw [UK _ _ hlen,UJ]
  have qR:∀x∈(oE l1 k.toNat).set k.toNat pt,x=pt\/x=ah\/x∈l1:=fun x hx=>by
   rcases List.mem_or_eq_of_mem_set hx with hx | rfl
   ·rcases List.mem_append.1 hx with hx | hx
    ·exact .inr (.inr hx)
    ·exact .inr (.inl (List.eq_of_mem_replicate hx))
   ·exact .inl rfl
  have RL:∀k'∈ks,k'≠k->k'.toNat≠k.toNat:=fun k' rv eP e=>by
   obtain ⟨b',Ji, -⟩:=g3 k' rv
   have:=(hf _ (aI Ji)).1
   simp only at this
   omega
  rcases h3.grow hI hn hw hp ib g1.w7 hb.2 [] with ⟨rfl,k2,rfl⟩ | ⟨k1,k2,k3⟩
  ·refine ⟨nw,g1,fun e he => ?_,fun i hi => ?_,fun k' rv => ?_,fun x hx => ?_⟩
   ·obtain ⟨k',c1,c2⟩:=g0 e he
    refine ⟨k',List.mem_append_left _ c1, ?_⟩
    rw [sV,if_neg (RL k' c1 (Ff.2.2 k' c1 k (List.mem_singleton.2 rfl)))];exact c2
   ·rw [List.mem_append,not_or] at hi
    rw [sV,if_neg (by have:=hi.2;simp only [List.mem_singleton] at this;omega)]
    exact g2 i hi.1
   ·by_cases c:k'=k
    ·subst c
     exact ⟨b,h2,.inl ⟨by rw [sV,if_pos rfl],k2⟩⟩
    ·have rv:=(List.mem_append.1 rv).resolve_right (fun h=>c (List.mem_singleton.1 h))
     obtain ⟨b',c1,c2⟩:=g3 k' rv
     refine ⟨b',c1, ?_⟩
     rw [sV,if_neg (RL k' rv c)];exact c2
   ·rcases qR x hx with rfl | rfl | hx
    ·exact .inl rfl
    ·exact .inl rfl
    ·exact g4 x hx
  ·refine ⟨nw++[⟨pt,b,[]⟩],g1.trans k3,fun e he => ?_,fun i hi => ?_,fun k' rv => ?_,fun x hx => ?_⟩
   ·rcases List.mem_append.1 he with he | he
    ·obtain ⟨k',c1,c2⟩:=g0 e he
     refine ⟨k',List.mem_append_left _ c1, ?_⟩
     rw [sV,if_neg (RL k' c1 (Ff.2.2 k' c1 k (List.mem_singleton.2 rfl)))];exact c2
    ·rw [List.mem_singleton.1 he]
     exact ⟨k,by simp,by rw [sV,if_pos rfl]⟩
   ·rw [List.mem_append,not_or] at hi
    rw [sV,if_neg (by have:=hi.2;simp only [List.mem_singleton] at this;omega)]
    exact g2 i hi.1
   ·by_cases c:k'=k
    ·subst c
     refine ⟨b,h2,.inr ⟨by rw [sV,if_pos rfl];exact k1,k2,⟨pt,b,[]⟩,by simp,by rw [sV,if_pos rfl],rfl⟩⟩
    ·have rv:=(List.mem_append.1 rv).resolve_right (fun h=>c (List.mem_singleton.1 h))
     obtain ⟨b',c1,c2⟩:=g3 k' rv
     refine ⟨b',c1, ?_⟩
     rw [sV,if_neg (RL k' rv c)]
     rcases c2 with c2 | ⟨c2,c3,e,he,c4⟩
     ·exact .inl c2
     ·exact .inr ⟨c2,c3,e,List.mem_append_left _ he,c4⟩
   ·rcases qR x hx with rfl | rfl | hx
    ·exact .inr (.inr ⟨⟨x,b,[]⟩,by simp,rfl⟩)
    ·exact .inl rfl
    ·rcases g4 x hx with c | c | ⟨e,he,c⟩
     ·exact .inl c
     ·exact .inr (.inl c)
     ·exact .inr (.inr ⟨e,List.mem_append_left _ he,c⟩)
theorem wu.grow {N:Nat}{o o':Ob}(h:wu pr ls n gt P o P' o')(hs:QB pr n ls P pm)(ho:de pm N o):∃nw,Grow pr n gt ls P pm P' nw/\(∀e∈nw,e.x∈o'.ay\/e.x∈o'.index)/\sX pm nw N o o':=by
 have hz:=(iA pr hw hn).2
 have Zv:=rN ho.sz
 have KZ:=ho.ZV hs.po
 have QC:=h.RQ hz ib Zv.1 KZ
 obtain ⟨ks,P1,l1,idx,root,hp1, -,h1,h2,rfl⟩:=h
 have Fk:∀k,k∈ks↔k∈o.fresh.map (·.1):=fun k=>hp1.mem_iff
 obtain ⟨n1,g1,g0,g2,g3,g4⟩:=Mh.grow hI hn hw hp ib h1 hs (fun e he=>⟨(ho.fk e he).1,(ho.fk e he).2.2⟩) (hp1.nodup_iff.2 ho.fn)
 have Qb:∀x∈l1,x=ah\/∃e∈pm++n1,e.x=x:=fun x hx=>by
  rcases g4 x hx with c | c | ⟨e,he,c⟩
  ·exact .inl c
  ·rcases ho.ptr x c with c | ⟨e,he,c⟩
   ·exact .inl c
   ·exact .inr ⟨e,List.mem_append_left _ he,c⟩
  ·exact .inr ⟨e,List.mem_append_right _ he,c⟩
 simp only at QC
 have aeG:l1.length<=64:=by have:=QC.1;omega
 obtain ⟨n2,k1,k2,k3,k4,k5,k6⟩:=qd.grow hI hn hw hp ib h2 g1.w7 aeG (fun x hx=>I2 g1.w7.po (Qb x hx)) { o with fresh:=[],clean:=true }
 have abW:∀i:Nat,aH o.fresh (i:Int)=none->(i:Int)∉ks:=fun i hi hk=>pV hi ((Fk _).1 hk)
 have abX:∀(i:Nat) (b:List UInt8),aH o.fresh (i:Int)=some b->(i:Int)∈ks:=fun i b hb=>(Fk _).2 (List.mem_map.2 ⟨_,aI hb,rfl⟩)
 have aeH:∀x:Pt,(∃e∈pm++n1,e.x=x)->∃e∈pm++(n1++n2),e.x=x:=fun x ⟨e,he,c⟩=>⟨e,by rw [<-List.append_assoc];exact List.mem_append_left _ he,c⟩
 refine ⟨n1++n2,g1.trans k1,fun e he => ?_,⟨rfl,rfl,rfl,fun i hi=>g2 i (abW i hi),fun i b hb => ?_, ?_⟩⟩
 ·rcases List.mem_append.1 he with he | he
  ·left
   obtain ⟨k, -,c⟩:=g0 e he
   rcases lI (l:=l1) (i:=k.toNat) with d | d
   ·have:=(g1.w7.po.Hh e (List.mem_append_right _ he)).dY
    rw [c,d] at this
    exact absurd this.2.2.2.2.1 (by simp [ah])
   ·rw [c];exact d
  ·exact .inr (k2 e he)
 ·obtain ⟨b',c1,c2⟩:=g3 _ (abX i b hb)
  rw [hb] at c1
  cases c1
  simp only [Int.toNat_natCast] at c2
  rcases c2 with c2 | ⟨c2,c3,e,he,c4⟩
  ·exact .inl c2
  ·exact .inr ⟨c2,c3,e,List.mem_append_left _ he,c4⟩
 ·refine ⟨fun x hx=>(Qb x hx).imp id (aeH x),(fun _ h=>by cases h),List.nodup_nil,QC.1,fun i hi => ?_,k4,ho.sz,QC.2.2.2.1,fun _=>⟨rfl,by rw [<-List.append_assoc];exact k3,Nat.le_trans k5 (P8 QC.1),fun x hx => ?_⟩⟩
  ·have jg:N<=i:=hi
   have xh:(i:Int)∉ks:=fun hk=>by
    obtain ⟨e,he,e2⟩:=List.mem_map.1 ((Fk _).1 hk)
    have:=ho.fk e he
    omega
   show cB l1 i=ah
   rw [g2 i xh];exact ho.pz i jg
  ·rcases k6 x hx with c | ⟨e,he,c⟩
   ·exact .inl c
   ·exact .inr ⟨e,List.mem_append_right _ (List.mem_append_right _ he),c⟩
theorem sB.grow {N:Nat}{o o':Ob}(h:sB pr ls n gt P o P' o')(hs:QB pr n ls P pm)(ho:de pm N o):∃nw,Grow pr n gt ls P pm P' nw/\(∀e∈nw,e.x∈o'.ay\/e.x∈o'.index)/\sX pm nw N o o':=by
 rcases h with ⟨hc,rfl,rfl⟩ | ⟨-,h⟩
 ·refine ⟨[],.rfl hs,(fun _ h=>by cases h),⟨rfl,rfl,hc,fun _ _=>rfl,fun i b hb => ?_,by rw [List.append_nil];exact ho⟩⟩
  rw [(ho.cl hc).1] at hb
  cases hb
 ·exact h.grow hI hn hw hp ib hs ho
theorem lP.grow {all os:List (Int×Ob)}{ks:List Int}{ds:List (Int×List Pt)}(h:lP pr ls n gt all P ks P' os ds)(hs:QB pr n ls P pm)(hall:∀k o,aH all k=some o->de pm (cY o.size 1024) o)(Dc:ks.Nodup) :
  ∃nw,Grow pr n gt ls P pm P' nw/\(∀k∈ks,∃o o',aH all k=some o/\aH os k=some o'/\sX pm nw (cY o.size 1024) o o')/\(∀e∈nw,∃k∈ks,∃o',aH os k=some o'/\(e.x∈o'.ay\/e.x∈o'.index))/\ds=os.map fun e=>(e.1,ej e.2):=by
 induction h with
 | nil=>exact ⟨[],.rfl hs,(fun _ h=>by cases h),(fun _ h=>by cases h),rfl⟩
 | @snoc ks P1 P2 os ds k o o' h1 h2 h3 ih =>
  rw [List.nodup_append] at Dc
  obtain ⟨nw,g1,g2,g4,g3⟩:=ih Dc.1
  obtain ⟨n2,k1,k0,k2⟩:=h3.grow hI hn hw hp ib g1.w7 (hall k o h2).app
  have hk:=h1.keys
  have xh:k∉os.map (·.1):=fun h=>by
   rw [hk.1] at h
   exact Dc.2.2 k h k (List.mem_singleton.2 rfl) rfl
  have gM:∀k'∈ks,aH (os++[(k,o')]) k'=aH os k':=fun k' rv=>by rw [kT xh,if_neg (fun e=>Dc.2.2 k' rv k (List.mem_singleton.2 rfl) e)]
  refine ⟨nw++n2,g1.trans k1,fun k' rv => ?_,fun e he => ?_,by rw [g3,List.map_append];rfl⟩
  rotate_left
  ·rcases List.mem_append.1 he with he | he
   ·obtain ⟨k',c1,p',c2,c3⟩:=g4 e he
    exact ⟨k',List.mem_append_left _ c1,p',by rw [gM k' c1];exact c2,c3⟩
   ·exact ⟨k,by simp,o',by rw [kT xh,if_pos rfl],k0 e he⟩
  rcases List.mem_append.1 rv with rv | rv
  ·obtain ⟨p,p',c1,c2,c3⟩:=g2 k' rv
   refine ⟨p,p',c1, ?_,c3.app⟩
   rw [kT xh,if_neg (fun e=>Dc.2.2 k' rv k (List.mem_singleton.2 rfl) e)]
   exact c2
  ·rw [List.mem_singleton.1 rv]
   exact ⟨o,o',h2,by rw [kT xh,if_pos rfl],k2.pre⟩
end
def sY (b:List UInt8)(k:Nat):Bool:=bp ((b.drop (1024*k)).take 1024)
def RV (T:Nat)(o:au)(k:Nat):au:=if o.gC k=true then { o with gC:=upd o.gC k false,born:=upd o.born k (if sY o.b k then 0 else T) } else o
def xD (T:Nat)(o:au):Nat->au
 | 0=>o
 | k+1=>RV T (xD T o k) k
def lJ (T:Nat)(o:au):au:=xD T o 64
theorem QD (T:Nat)(o:au)(k:Nat):(RV T o k).no=o.no/\(RV T o k).b=o.b/\(RV T o k).v=o.v:=by unfold RV;split <;> exact ⟨rfl,rfl,rfl⟩
theorem dq (T:Nat)(o:au):∀k,(xD T o k).no=o.no/\(xD T o k).b=o.b/\(xD T o k).v=o.v
 | 0=>⟨rfl,rfl,rfl⟩
 | k+1=>by
  have h1:=QD T (xD T o k) k
  have h2:=dq T o k
  exact ⟨h1.1.trans h2.1,h1.2.1.trans h2.2.1,h1.2.2.trans h2.2.2⟩
theorem UL {α:Type}(f:Nat->α)(k:Nat)(x y:α):upd (upd f k x) k y=upd f k y:=by
 funext j
 unfold upd
 by_cases c:j=k
 ·rw [if_pos c,if_pos c]
 ·rw [if_neg c,if_neg c,if_neg c]
theorem Lk {b:List UInt8}{k:Nat}(h:b.length<=1024*k):sY b k=true:=by
 unfold sY
 rw [List.drop_eq_nil_of_le h];rfl
theorem xE {L:List au}{g:au->au}{i:Nat}{o:au}(h:L[i]? = some o):((L.take i).map g++L.drop i).set i (g o)=(L.take (i+1)).map g++L.drop (i+1):=by
 have hi:=(List.getElem?_eq_some_iff.1 h).1
 have e:L[i]=o:=(List.getElem?_eq_some_iff.1 h).2
 have hl:((L.take i).map g).length=i:=by rw [List.length_map,List.length_take];omega
 rw [List.set_append_right _ _ oZ,hl,Nat.sub_self,List.drop_eq_getElem_cons hi,List.set_cons_zero,aG L hi,List.map_append,e,List.append_assoc];rfl
theorem Et {L:List au}{g:au->au}{i:Nat}{o:au}(h:L[i]? = some o):((L.take i).map g++L.drop i)[i]? = some o:=by
 have hi:=(List.getElem?_eq_some_iff.1 h).1
 have hl:((L.take i).map g).length=i:=by rw [List.length_map,List.length_take];omega
 rw [List.getElem?_append_right oZ,hl,Nat.sub_self,List.getElem?_drop];exact h
end Go.Sl
namespace Go.Proofs.YtcfioaeamfappaaGreatDoor
open Go.Sl
set_option maxRecDepth 10000
set_option maxHeartbeats 4000000
theorem Hk (a:Nat)(l:List au)(aQ:mJ l)(txg note room dS:Nat)(Az:txg+1<18446744073709551616)(G:List UInt8)(adG:Option Addr)(cG:Nat)(DG:Chunk)(hG:Rd DG 1 (.slice adG 22528 cG) 22528 (ak G))(vS:Value)(ad:Option Addr)(c:Nat)(D O:Chunk)(hH:IV D (.slice ad l.length c) l.length (l.flatMap au.lay))(hO:DE O l) :
  Ct 54 [ptr a,.int .u64 dS] [[(a,eK (.slice ad l.length c) txg note room (.slice adG 22528 cG) vS)],D,O,DG] fun _ Bs=>∃D' bG cS DS,IV D' (.slice ad l.length c) l.length ((l.map (lJ (txg+1))).flatMap au.lay)/\az DS 5 1 (.slice bG 22528 cS) 22528 (ak G)/\Bs=[[(a,eK (.slice ad l.length c) (txg+1) dS room (.slice adG 22528 cG) (.slice bG 22528 cS))],D',O,DG,DS]:=by
 have nJ:=aQ.jE
 have nF:IntKind.u64.wrap ((txg:Int)+1)=((txg+1:Nat):Int):=by rw [IntWalk.u64_in _ oZ];omega
 obtain ⟨T,hT⟩:∃T,T=txg+1:=⟨_,rfl⟩
 rw [<-hT] at nF ⊢
 by_cases h0:l.length=0
 ·obtain rfl:=List.eq_nil_of_length_eq_zero h0
  refine st Tryz.func54 fun w0 => ?_
  refine gl [0] (fun _:Nat=>[(4,.int .i64 0)]) (fun _=>[]) (fun _=>True) (fun _=>0) 0 trivial ?_
  rintro i -
  refine gp ?_;intro bG cS DS Uk
  refine gz ?_
  exact fin ⟨D,bG,cS,DS,hH,Uk,rfl⟩ aa
 ·rcases hH.2 with h | ⟨g,c',r,hv,rfl⟩
  ·exact absurd h h0
  cases hv
  refine st Tryz.func54 fun w0 => ?_
  refine gl [0] (fun i:Nat=>[(4,.int .i64 i)]) (fun i=>[[(g,av (((l.take i).map (lJ T)++l.drop i).flatMap au.lay++r) 65)]]) (fun i=>i<=l.length) (fun i=>l.length - i) 0 oZ ?_
  intro i hi
  refine gi ?_ ?_ <;> intro bh
  ·have bo:i<l.length:=by omega
   obtain ⟨o,ho⟩:∃o,l[i]? = some o:=⟨_,List.getElem?_eq_getElem bo⟩
   have qG:=List.mem_of_getElem? ho
   have gh:=Et (g:=lJ T) ho
   have sw:=xE (g:=lJ T) ho
   obtain ⟨L,hL⟩:∃L,L=(l.take i).map (lJ T)++l.drop i:=⟨_,rfl⟩
   have hLl:L.length=l.length:=by rw [hL,List.length_append,List.length_map,List.length_take,List.length_drop];omega
   rw [<-hL] at gh sw ⊢
   have eQ:∀x,(L.set i x)[i]? = some x:=fun x=>by rw [List.getElem?_set_self oZ]
   have xe:L=L.set i (xD T o 0):=by
    apply List.ext_getElem?
    intro j
    by_cases c:i=j
    ·subst c;rw [gh,eQ];rfl
    ·rw [List.getElem?_set_ne c]
   have AY:=aQ.sm o qG
   obtain ⟨⟨j2,cv,hv,RA⟩,Mf⟩:=hO o qG
   rw [hv] at Mf
   rw [xe]
   refine gl [0,4] (fun k:Nat=>[(5,.int .i64 k)]) (fun k=>[[(g,av ((L.set i (xD T o k)).flatMap au.lay++r) 65)]]) (fun k=>k<=64) (fun k=>64 - k) 0 oZ ?_
   intro k hk
   refine gi ?_ ?_ <;> intro pD
   ·have Qc:k<64:=by omega
    obtain ⟨Mi,aeI⟩:∃q,q=xD T o k:=⟨_,rfl⟩
    have xT:=dq T o k
    have qD:xD T o (k+1)=RV T (xD T o k) k:=rfl
    rw [<-aeI] at xT qD ⊢
    have hlen:=Ao (L.set i Mi) r
    rw [List.length_set,hLl] at hlen
    have PC:=sy (r:=r) (eQ Mi) (Mi.II Qc)
    rw [<-Nat.add_assoc] at PC
    cases PI:Mi.gC k with
    | false =>
     have qD:xD T o (k+1)=Mi:=by rw [qD,RV,if_neg (by rw [PI];simp)]
     rw [PI] at PC
     refine gn ?_
     exact ⟨k+1,by omega,by omega,aq,_,by rw [qD];exact aa⟩
    | true =>
     rw [PI] at PC
     obtain ⟨s1,xg⟩:∃s1:au,s1={ Mi with gC:=upd Mi.gC k false }:=⟨_,rfl⟩
     obtain ⟨s2,lU⟩:∃s2:au,s2={ s1 with born:=upd s1.born k T }:=⟨_,rfl⟩
     obtain ⟨s3,hs3⟩:∃s3:au,s3={ s1 with born:=upd s1.born k 0 }:=⟨_,rfl⟩
     have aeJ:sY o.b k=false->xD T o (k+1)=s2:=fun h=>by rw [qD,RV,if_pos PI,show sY Mi.b k=false by rw [xT.2.1];exact h,if_neg (by simp),lU,xg]
     have abY:sY o.b k=true->xD T o (k+1)=s3:=fun h=>by rw [qD,RV,if_pos PI,show sY Mi.b k=true by rw [xT.2.1];exact h,if_pos rfl,hs3,xg]
     have e1:=iX (r:=r) (o:=Mi) (o':=s1) (v:=.bool false) (j:=66+k) oZ (by rw [xg];exact au.tC _ Qc _) (eQ Mi)
     have e2:=iX (r:=r) (o:=s1) (o':=s2) (v:=.int .u64 T) (j:=2+k) oZ (by rw [lU];exact au.vY _ Qc _) (eQ s1)
     have e3:=iX (r:=r) (o:=s2) (o':=s3) (v:=.int .u64 0) (j:=2+k) oZ (by rw [hs3,lU];exact (au.vY _ Qc 0).trans (by rw [UL])) (eQ s2)
     have hv2:=sy (r:=r) (eQ s2) (show s2.lay[1]? = some (.slice j2 o.b.length cv) by rw [<-hv,<-xT.2.2,lU,xg];exact au.rD _)
     rw [<-Nat.add_assoc,List.set_set] at e1 e2 e3
     rw [<-e2,<-e1] at hv2
     obtain ⟨C0,SX⟩:∃C0,C0=(L.set i Mi).flatMap au.lay++r:=⟨_,rfl⟩
     rw [<-SX] at PC hlen hv2 e1 ⊢
     have s7:(C0.set (i*130+66+k) (.bool false)).length=l.length*130+r.length:=by rw [List.length_set];exact hlen
     have jc:((C0.set (i*130+66+k) (.bool false)).set (i*130+2+k) (.int .u64 T)).length=l.length*130+r.length:=by rw [List.length_set];exact s7
     have e12:(C0.set (i*130+66+k) (.bool false)).set (i*130+2+k) (.int .u64 T)=(L.set i s2).flatMap au.lay++r:=by rw [e1];exact e2
     have abZ:((C0.set (i*130+66+k) (.bool false)).set (i*130+2+k) (.int .u64 T)).set (i*130+2+k) (.int .u64 0)=(L.set i s3).flatMap au.lay++r:=by rw [e12];exact e3
     by_cases xN:o.b.length<=1024*k
     ·have qD:=abY (Lk xN)
      refine gn ?_
      rw [abZ]
      exact ⟨k+1,by omega,by omega,aq,_,by rw [qD];exact aa⟩
     ·obtain ⟨q,hq⟩:∃q,q=min (1024*k+1024) o.b.length - 1024*k:=⟨_,rfl⟩
      have cV:∀q',q'=min (1024*k+1024) o.b.length->((ak o.b).drop (1024*k*1)).take ((q' - 1024*k)*1)=ak ((o.b.drop (1024*k)).take 1024):=fun q' h=>by
       rw [Nat.mul_one,Nat.mul_one,aY,aL]
       congr 1
       apply List.ext_getElem?
       intro j
       rw [List.getElem?_take,List.getElem?_take]
       by_cases c1:j<q' - 1024*k
       ·rw [if_pos c1,if_pos oZ]
       ·rw [if_neg c1]
        split
        ·rw [List.getElem?_eq_none (by rw [List.length_drop];omega)]
        ·rfl
      have aeK:((o.b.drop (1024*k)).take 1024).length=q:=by rw [List.length_take,List.length_drop];omega
      have uw:=fun v hv=>K4 v O ((o.b.drop (1024*k)).take 1024) q aeK hv
      rw [show bp ((o.b.drop (1024*k)).take 1024)=sY o.b k from rfl] at uw
      by_cases hb4:o.b.length<1024*k+1024
      case' pos =>
       have nZ:=cV o.b.length oZ
       have hnq:o.b.length - 1024*k=q:=by omega
      case' neg =>
       have nZ:=cV (1024*k+1024) oZ
       have hnq:1024*k+1024 - 1024*k=q:=by omega
      all_goals
       refine gw ?_;intro fJ zx
       refine gc (uw _ zx) ?_
       rintro _ _ ⟨rfl,rfl⟩
       cases G0:sY o.b k with
       | true =>
        have qD:=abY G0
        refine gn ?_
        rw [abZ]
        exact ⟨k+1,by omega,by omega,aq,_,by rw [qD];exact aa⟩
       | false =>
        have qD:=aeJ G0
        refine gn ?_
        rw [e12]
        exact ⟨k+1,by omega,by omega,aq,_,by rw [qD];exact aa⟩
   ·obtain rfl:k=64:=by omega
    refine gn ?_
    have aeL:(l.take (i+1)).map (lJ T)++l.drop (i+1)=L.set i (xD T o 64):=sw.symm
    exact ⟨i+1,by omega,by omega,aq,_,by rw [aeL];exact aa⟩
  ·obtain rfl:i=l.length:=by omega
   rw [List.take_length,List.drop_length,List.append_nil]
   refine gp ?_;intro bG cS DS Uk
   refine gz ?_
   have fE:∀u∈(l.map (lJ T)).flatMap au.lay,u.oneCell'=true:=fun u hu=>by
    obtain ⟨x,hx,hu⟩:=List.mem_flatMap.1 hu
    obtain ⟨y,hy,rfl⟩:=List.mem_map.1 hx
    obtain ⟨⟨j2,cv,hv, -⟩, -⟩:=hO y hy
    exact au.bC _ (by rw [show (lJ T y).v=y.v from (dq T y 64).2.2,hv];rfl) u hu
   refine fin ⟨_,bG,cS,DS,⟨⟨by rw [fL au.aj,List.length_map],fE,by simp only [maxLen];omega,.inr ⟨g,0,c,_,_,_,rfl,List.mem_singleton.2 rfl,fun j u hu => ?_⟩⟩,.inr ⟨g,c,r,rfl,rfl⟩⟩,Uk,rfl⟩ aa
   rw [Nat.zero_add,List.getElem?_toArray,List.getElem?_append_left (List.getElem?_eq_some_iff.1 hu).1];exact hu
end Go.Proofs.YtcfioaeamfappaaGreatDoor
