/-
  Texts put together (16).
-/
import Derived.Test.YteldablklnfblaaGreatDoorZTopTwice15
namespace Go.Sl
def fY (up:Pt->List Pt)(root:Pt):Ob:=lL up ⟨false,8064,root⟩
def QL (n:Nat)(ls:List (Option Lv))(no:Nat)(u:Ub)(R:Rk):Rk:=(((bP ls 22528 R no 0 (aX R ls)).1.run (oM n ls u)).run (iH ls))
theorem eK (up:Pt->List Pt)(s:eX):(lL up s).size=s.size/\(lL up s).root=s.root/\(lL up s).used=s.used/\(lL up s).fresh=[]/\(lL up s).clean=true:=by unfold lL;split <;> exact ⟨rfl,rfl,rfl,rfl,rfl⟩
theorem rW.len {R:Rk}{ls:List (Option Lv)}{pr:Bool}{n:Nat}{up:Pt->List Pt}{s:eX}(h:rW R ls pr n up s.root):(lL up s).ay.length<=64/\(lL up s).index.length<=5:=by
 unfold lL
 split
 ·exact ⟨by simp,by simp⟩
 ·rename_i hx
  have h1:=qz (l:=up s.root) (h.kB hx)
  have h2:=h.jY hx
  exact ⟨by simp only;omega,by simp only [List.length_append,List.length_cons,List.length_nil];omega⟩
theorem wJ (rd:Pt->List UInt8)(o:Ob)(hs:o.size=8064):∀i,i<=8->((List.range i).flatMap (o.fO rd)).length=min (i*1024) 8064
 | 0,_=>rfl
 | i+1,h=>by
  rw [List.range_succ,List.flatMap_append,List.length_append,wJ rd o hs i oZ,List.flatMap_singleton,Ob.fO,dR,hs,aS]
  omega
end Go.Sl
namespace Go.Proofs.YteldablklnfblaaGreatDoor
open Go.Sl
set_option maxRecDepth 10000
set_option maxHeartbeats 4000000
section
variable (T:TypeId)(fr:Nat×Nat)(p:Nat)(qs:List Nat)(t pool:Nat)(tp:Tp)(pr:Bool)(n:Nat)(ls:List (Option Lv))(no:Nat)(V:Chunk)(hV:jb t pool tp pr n ls no V)(ok:dK tp pr n ls.length)(R:Rk)(C:Chunk)(hC:bq p qs R C)(ho:dJ qs R n ls)(hall:∀x∈ls,x≠none)(bZ:R.off=false)
variable (s:Nat)(vA:Value)(ra rd txg note:Nat)
include hV ok hC ho hall bZ
theorem QM (CD:Chunk)(hD:Mp rd .i64 [] CD)(up:Pt->List Pt)(root:Pt)(h:rW R ls pr n up root)(dw:Pt->List UInt8)(hl:∀x∈(fY up root).ay,x≠ah->K0 R ls pr n x (dw x))(SL:List eX)(Xc:SL.length=112)(hSo:∀s∈SL,s.Ok)(Ho:(List.range 8).flatMap ((fY up root).fO dw)=fJ SL) :
  Ct 67 [ptr s,root.agg] [[(s,bR t vA ra rd txg note)],gK T fr,C,V,CD] fun u Bs=>∃ad c D v CD' DP,u = .tuple #[.slice ad 112 c,.int .i64 0]/\az D 134 11 (.slice ad 112 c) 112 (SL.flatMap eX.lay)/\Mp rd .i64 [(0,v)] CD'/\PC v (bH ((fY up root).ay++(fY up root).index)) DP/\Bs=[D,[(s,bR t vA ra rd txg note)],gK T fr,C,V,CD',DP]:=by
 have hld:=QK T fr p qs t pool tp pr n ls no V hV ok R C hC ho hall bZ up ⟨false,8064,root⟩ h
 have xA:=rW.len (s:=⟨false,8064,root⟩) h
 have bu:=(eK up ⟨false,8064,root⟩).1
 have pg:=(eK up ⟨false,8064,root⟩).2.2.2.1
 unfold fY at hl Ho ⊢
 obtain ⟨mo,Lj⟩:∃mo,mo=lL up ⟨false,8064,root⟩:=⟨_,rfl⟩
 rw [<-Lj] at hld xA bu pg hl Ho ⊢
 have ef:=fun a A hA i hi=>qd T fr p qs t pool tp pr n ls no V hV ok R C hC ho hall bZ s vA ra rd txg note a mo (by rw [bu];simp only;omega) A hA i hi dw (fun x hx=>hl x (List.mem_of_getElem? hx)) (fun e he=>by rw [pg] at he;cases he)
 have hbs:=wJ dw mo bu
 have hb8:=hbs 8 (Nat.le_refl _)
 clear Lj
 refine st Tryz.func67 fun w0 => ?_
 refine ga ?_;intro b3
 refine gd [0,4,8,12,16,20,27,30,34,38,42,46] ?_
 refine gc hld ?_
 rintro _ _ ⟨a,A,hA,rfl,rfl⟩
 have ef:=fun i hi=>ef a A hA i hi
 have dY:=hA
 obtain ⟨jl,cP,DP,dQ,cI,DI,r,LF,CF,VF,hP,hI,hM,hF,rfl⟩:=dY
 refine gs ?_
 refine qM [[(s,bR t vA ra rd txg note)]] [0,4,8,12,16,21,27] ?_
 refine gc (tQ a mo jl cP DP dQ cI DI r hP hI oZ oZ) ?_
 rintro _ _ ⟨jB,cq,Dq,rfl,hDq,rfl⟩
 refine gu ?_
 intro CD' eo
 rw [show mo.size=8064 from bu] at ef ⊢
 refine gl [0,6,38] (fun ((i,v8,_):Nat×Value×Chunk)=>[(39,.int .i64 i),(8,v8)]) (fun (_,_,E)=>[E]) (fun (i,v8,E)=>i<=8/\(∃ad c,v8 = .slice ad (min (i*1024) 8064) c)/\az E 5 1 v8 (min (i*1024) 8064) (ak ((List.range i).flatMap (mo.fO dw)))) (fun (i,_)=>8 - i) (0,.slice none 0 0,[]) ⟨by omega,⟨none,0,rfl⟩,az.nil _ _⟩ ?_
 rintro ⟨i,v8,E⟩ ⟨hi,⟨yn,c8,rfl⟩,hE⟩
 refine gi ?_ ?_ <;> intro bo
 ·have K6:=ef i oZ
  have CV:=hbs (i+1) oZ
  have Zx:ak ((List.range i).flatMap (mo.fO dw))++ak (mo.fO dw i)=ak ((List.range (i+1)).flatMap (mo.fO dw)):=by rw [<-aE,List.range_succ,List.flatMap_append,List.flatMap_singleton]
  have dr:(mo.fO dw i).length=aS 8064 i:=by rw [Ob.fO,dR,bu]
  have W4:min (i*1024) 8064+aS 8064 i=min ((i+1)*1024) 8064:=by unfold aS;omega
  have hb2:aS 8064 i<=1024:=by unfold aS;omega
  generalize aS 8064 i=L at *
  refine gc K6 ?_
  rintro _ _ ⟨g,rfl,rfl⟩
  refine gs ?_
  have hRg:Rd [(g,ax (ak (mo.fO dw i)) 5)] 1 (.slice (some ⟨g,0,none⟩) L L) L (ak (mo.fO dw i)):=av (by rw [ai,dr,Nat.mul_one]) (aK _) oZ _
  refine gp ?_;intro MF c9 E9 ZK
  rw [Zx] at ZK
  rw [W4] at ZK ⊢
  refine gn ?_
  exact ⟨(i+1,_,E9),⟨by omega,⟨MF,c9,rfl⟩,ZK⟩,by simp only;omega,aq,_,aa⟩
 ·obtain rfl:i=8:=by omega
  rw [Ho] at hE
  refine gc (TA E yn 8064 c8 112 SL Xc rfl hE.rd (by have:=hE.dN;omega) oZ hSo) ?_
  rintro _ _ ⟨MF,c9,D9,rfl,FD,rfl⟩
  refine gz ?_
  exact fin ⟨MF,c9,D9,_,CD',Dq,rfl,FD,eo,hDq,rfl⟩ aa
end
section
variable (T:TypeId)(fr:Nat×Nat)(p:Nat)(qs:List Nat)(t pool:Nat)(tp:Tp)(pr:Bool)(n:Nat)(ls:List (Option Lv))(no:Nat)(V:Chunk)(hV:jb t pool tp pr n ls no V)(ok:dK tp pr n ls.length)(R:Rk)(C:Chunk)(hC:bq p qs R C)(ho:dJ qs R n ls)(hall:∀x∈ls,x≠none)(bZ:R.on)
include hV ok hC ho hall bZ
theorem UZ (u:Ub)(hu:zP u=0)(huo:u.Ok)(nE:u.pool=pool)(eD:1<=no/\no+22528<=281474976710656)(hw:R.ws.length+200000<=900000000000)(hS:∀k,(tO R ls k).length=88)(QN:(bP ls 22528 R no 0 (aX R ls)).1.on)(ho1:dJ qs (bP ls 22528 R no 0 (aX R ls)).1 n ls)(R7:(bP ls 22528 R no 0 (aX R ls)).1.ws.length+100<=900000000000) :
  Ct 71 [ptr t,u.agg] [gK T fr,C,V] fun v Bs=>v = .int .i64 0/\∃C' V',bq p qs (QL n ls no u R) C'/\jb t pool tp pr n ls (bP ls 22528 R no 0 (aX R ls)).2 V'/\Bs=[gK T fr,C',V']:=by
 have tz:=yK T fr p qs t pool tp pr n ls no V hV ok hall R C hC ho 0 22528 oZ hS
 have ZR:=G9 hS
 rw [List.drop_zero,List.take_of_length_le oZ] at tz
 have hlw:=fun D ad c hD hc=>wz T fr p qs t pool tp pr n ls no V hV ok hall R C hC ho 0 (aX R ls) 22528 ZR oZ eD oZ D ad c hD hc
 rw [if_neg (fun h=>by rw [QN.2] at h;exact absurd h.2 dZ)] at hlw
 unfold QL
 generalize bP ls 22528 R no 0 (aX R ls)=X at *
 obtain ⟨R1,FF⟩:=X
 simp only at *
 have IX:=fun C1 V1 rp hV1=>IZ T fr p qs t pool tp pr n ls FF V1 hV1 ok R1 C1 rp ho1 hall u hu huo nE oZ
 have jH:=fun C1 V1 rp (hV1:jb t pool tp pr n ls FF V1)=>p3 (p:=p) (qs:=qs) (t:=t) (V:=V1) (hV:=hV1) (ok:=ok) (R:=R1.run (oM n ls u)) (C:=C1) (hC:=rp) (ho:=ho1.run _) (hall:=hall)
 rw [wG QN] at IX
 rw [wG (QN.run _)] at jH
 refine st Tryz.func71 fun w0 => ?_
 refine ga ?_;intro b3
 refine gc tz ?_
 rintro _ _ (⟨hx, -⟩ | ⟨-,ad,c,D,rfl,hD,rfl⟩)
 ·rw [bZ.2] at hx;cases hx
 refine gc (hlw D ad c hD.rd (by have:=hD.dN;omega)) ?_
 rintro _ _ ⟨C1,V1,rfl,rp,hV1,rfl⟩
 refine gc (IX C1 V1 rp hV1) ?_
 rintro _ _ ⟨C2,rfl,Cu,rfl⟩
 refine gc (jH C2 V1 Cu hV1) ?_
 rintro _ _ ⟨C3,rfl,km,rfl⟩
 refine gz ?_
 exact fin ⟨rfl,C3,V1,km,hV1,rfl⟩ aa
end
end Go.Proofs.YteldablklnfblaaGreatDoor
namespace Go.Sl
def ej (o:Ob):List Pt:=bH (o.ay++o.index)
def xm (up:Pt->List Pt):Nat->List eX->List (Int×Ob)
 | _,[]=>[]
 | i,s :: r=>(if s.used then [(((i+1:Nat):Int),lL up s)] else [])++xm up (i+1) r
theorem ED (up:Pt->List Pt)(s:eX):∀(i:Nat) (l:List eX),xm up i (l++[s])=xm up i l++(if s.used then [(((i+l.length+1:Nat):Int),lL up s)] else [])
 | i,[]=>by simp [xm]
 | i,x :: r=>by
  rw [List.cons_append,xm,xm,ED up s (i+1) r,List.append_assoc,List.length_cons,show i+1+r.length+1=i+(r.length+1)+1 by omega]
theorem qA {up:Pt->List Pt}:∀ {i:Nat} {l:List eX} {e:Int×Ob},e∈xm up i l->∃(j:Nat) (s:eX),l[j]? = some s/\s.used=true/\e=(((i+j+1:Nat):Int),lL up s)
 | i,[],e,h=>by cases h
 | i,x :: r,e,h=>by
  rw [xm,List.mem_append] at h
  rcases h with h | h
  ·split at h
   ·exact ⟨0,x,rfl,by assumption,List.mem_singleton.1 h⟩
   ·cases h
  ·obtain ⟨j,s,h1,h2,h3⟩:=qA h
   exact ⟨j+1,s,h1,h2,by rw [h3];congr 3;omega⟩
def AR (up:Pt->List Pt)(mo:Ob)(l:List eX):List (Int×List Pt):=(0,ej mo) :: (xm up 0 l).map fun e=>(e.1,ej e.2)
theorem eS.snoc {β:Type}{R:Value->β->Chunk->Prop}{q:Int}{v:Value}{x:β}{D:Chunk}(hD:R v x D):∀ {L:List (Int×Value)} {M:List (Int×β)} {V:Chunk},eS R L M V->eS R (L++[(q,v)]) (M++[(q,x)]) (V++D)
 | [],[],V,h=>by
  obtain rfl:V=[]:=h
  exact ⟨rfl,D,[],hD,rfl,by simp⟩
 | [],_ :: _,_,h=>h.elim
 | _ :: _,[],_,h=>h.elim
 | (p,u) :: L,(j,y) :: M,V,h=>by
  obtain ⟨rfl,E,V',hE,hV,rfl⟩:=h
  exact ⟨rfl,E,V'++D,hE,hV.snoc hD,by rw [List.append_assoc]⟩
structure OpP (z m:Nat)(od:List (Int×List Pt)):Prop where
 top:∀x∈bc od,x.top=0
 at_:∀x∈bc od,x.at_=(aM m x:Nat)*(m:Int)
 bd:∀x∈bc od,(aM m x+1:Int)*(m:Int)<=(z:Int)
 inj:∀x∈bc od,∀y∈bc od,aM m x=aM m y->x=y
end Go.Sl
namespace Go.Proofs.YteldablklnfblaaGreatDoor
open Go.Sl
set_option maxRecDepth 10000
set_option maxHeartbeats 2000000
section
variable (T:TypeId)(fr:Nat×Nat)(p:Nat)(qs:List Nat)(t pool:Nat)(tp:Tp)(pr:Bool)(n:Nat)(ls:List (Option Lv))(no:Nat)(V:Chunk)(hV:jb t pool tp pr n ls no V)(ok:dK tp pr n ls.length)(dE:n<=2048)(R:Rk)(C:Chunk)(hC:bq p qs R C)(ho:dJ qs R n ls)(hall:∀x∈ls,x≠none)(bZ:R.on)
include hV ok dE hC ho hall bZ
theorem U0 (ring:Nat->Nat->Nat->Option Ub)(hr:∀i x,ls[i]? = some (some x)->iN R n x.i (ring i))(U:List Ub)(hU:U.length<=19)(OX:∀i k j u,ring i k j=some u->u∈U)(u:Ub)(Py:∀x,mN ring pool ls.length x->x=u)(AO:u.txg≠0)
  (up:Pt->List Pt) (Jk:rW R ls pr n up u.root) (dw:Pt->List UInt8) (hl:∀x∈(fY up u.root).ay,x≠ah->K0 R ls pr n x (dw x)) (SL:List eX) (Xc:SL.length=112) (hSo:∀s∈SL,s.Ok) (Ho:(List.range 8).flatMap ((fY up u.root).fO dw)=fJ SL) (Lo:∀s∈SL,s.used=true->rW R ls pr n up s.root)
  (m:Nat) (hm:m=aN pr ls.length 1024) (mu:OpP (bD pr ls.length n) m (AR up (fY up u.root) SL))
  (hu:zP u=0) (huo:u.Ok) (nE:u.pool=pool) (eD:1<=no/\no+22528<=281474976710656) (hw:R.ws.length+200000<=900000000000) (hS:∀k,(tO R ls k).length=88) (QN:(bP ls 22528 R no 0 (aX R ls)).1.on) (ho1:dJ qs (bP ls 22528 R no 0 (aX R ls)).1 n ls) (R7:(bP ls 22528 R no 0 (aX R ls)).1.ws.length+100<=900000000000) :
  Ct 20 [ptr t] [gK T fr,C,V] fun v Bs=>∃s al ra rd ks,v = .tuple #[ptr s,.int .i64 0]/\ks.Nodup/\(∀k,k∈ks↔∃x∈bc (AR up (fY up u.root) SL),aM m x=k) /\
   ∃C' V' LA CA VA Ld CD VD Al,bq p qs (QL n ls no u R) C'/\jb t pool tp pr n ls (bP ls 22528 R no 0 (aX R ls)).2 V'/\Mp ra .i64 LA CA/\eS wi LA (xm up 0 SL) VA/\Mp rd .i64 Ld CD/\eS PC Ld (AR up (fY up u.root) SL) VD/\pd al ((bD pr ls.length n:Nat):Int) (m:Nat) ⟨ks,[]⟩ Al/\Bs=[[(s,bR t (ptr al) ra rd u.txg u.note)],gK T fr,C',V',CA,VA,CD,VD,Al]:=by
 subst hm
 have hky:=Xb
 have hz:=iB pr ok.hw ⟨ok.hn.1,dE⟩
 have ZB:=sI pr ok.hw ok.hp
 have hbs:=Av T fr p qs t pool tp pr n ls no V hV ok hall R C hC ho bZ.2 ring hr U hU OX
 have htb:=fun s vA ra rd txg note CD hD=>QM T fr p qs t pool tp pr n ls no V hV ok R C hC ho hall bZ.2 s vA ra rd txg note CD hD up u.root Jk dw hl SL Xc hSo Ho
 have hld:=fun (s:eX) hs=>QK T fr p qs t pool tp pr n ls no V hV ok R C hC ho hall bZ.2 up s hs
 have bu:=Ay t pool tp pr n ls no V hV ok dE
 have qO:=UZ T fr p qs t pool tp pr n ls no V hV ok R C hC ho hall bZ u hu huo nE eD hw hS QN ho1 R7
 obtain ⟨mo,Lj⟩:∃mo,mo=fY up u.root:=⟨_,rfl⟩
 have aeQ:(ej mo).length<=200:=by
  have h1:=rW.len (s:=⟨false,8064,u.root⟩) Jk
  have h2:=k9 (mo.ay++mo.index)
  rw [List.length_append] at h2
  rw [Lj] at h2 ⊢
  unfold fY ej at *
  omega
 rw [<-Lj] at mu htb ⊢
 obtain ⟨m,hm⟩:∃m,m=aN pr ls.length 1024:=⟨_,rfl⟩
 rw [<-hm] at mu ZB ⊢
 refine st Tryz.func20 fun w0 => ?_
 refine gc hbs ?_
 rintro _ _ ⟨⟨x,hx,rfl⟩,rfl⟩
 rw [Py x hx,if_neg AO]
 clear hx x hbs
 refine ga ?_;intro b4
 refine uM .i64 ?_;intro ra CA hA
 refine uM .i64 ?_;intro rd CD hD
 refine ga ?_;intro s
 refine gc (htb s (.pointer none) ra rd u.txg u.note CD hD) ?_
 rintro _ _ ⟨bI,cS,DS,v0,CD1,DP0,rfl,UG,Bq,hP0,rfl⟩
 have aac:=UG.rd
 obtain ⟨gS,oS,rfl⟩:=aac.addr oZ
 refine gl [0,4,6,46,47] (fun ((i,_):Nat×List (Int×Value)×List (Int×Value)×Chunk×Chunk×Chunk×Chunk)=>[(48,.int .i64 i)]) (fun (_,_,_,CA,VA,CD,VD)=>[CA,VA,CD,VD]) (fun (i,LA,Ld,CA,VA,CD,VD)=>i<=112/\Mp ra .i64 LA CA/\eS wi LA (xm up 0 (SL.take i)) VA/\Mp rd .i64 Ld CD/\eS PC Ld (AR up mo (SL.take i)) VD) (fun (i,_)=>112 - i) (0,[],[(0,v0)],CA,[],CD1,DP0) ⟨by omega,hA,rfl,Bq,⟨rfl,DP0,[],hP0,rfl,by simp⟩⟩ ?_
 clear hA hD Bq hP0
 rintro ⟨i,LA,Ld,CA,VA,CD,VD⟩ ⟨hi,hA,I5,hD,U3⟩
 refine gi ?_ ?_ <;> intro bo
 ·have bm:i<SL.length:=by omega
  obtain ⟨sl,fH⟩:∃sl,sl=SL[i]:=⟨_,rfl⟩
  have hs:=ar (lay:=eX.lay) (s:=11) eX.aj SL i sl (by rw [fH];simp)
  have sJ:SL.take (i+1)=SL.take i++[sl]:=by rw [aG SL bm,<-fH]
  have cw:=ED up sl 0 (SL.take i)
  rw [show 0+(SL.take i).length+1=i+1 by rw [List.length_take];omega] at cw
  refine ga ?_;intro b9
  refine gi ?_ ?_ <;> intro M4
  ·have y6:sl.used=false:=by simpa using M4
   rw [if_neg (by rw [y6];simp),List.append_nil] at cw
   refine gn ?_
   exact ⟨(i+1,LA,Ld,CA,VA,CD,VD),⟨by omega,hA,by rw [sJ,cw];exact I5,hD,by rw [AR,sJ,cw];exact U3⟩,by simp only;omega,aq,_,aa⟩
  ·have y6:sl.used=true:=by simpa using M4
   have xl:=Lo sl (by rw [fH];exact List.getElem_mem _) y6
   rw [if_pos y6] at cw
   refine gc (hld sl xl) ?_
   rintro _ _ ⟨a,A,By,rfl,rfl⟩
   have xA:=rW.len (s:=sl) xl
   obtain ⟨ob,aeR⟩:∃ob,ob=lL up sl:=⟨_,rfl⟩
   rw [<-aeR] at By xA cw
   have UT:=By
   obtain ⟨jl,cP,DP,dQ,cI,DX,r,LF,CF,VF,hP,AD,hM,hF,rfl⟩:=UT
   refine gs ?_
   refine qM [[(s,bR t (.pointer none) ra rd u.txg u.note)]] [0,4,8,12,16,20,24,28,32,36,40,44,48,52,57,61,64,69,73,76,83] ?_
   refine gc (tQ a ob jl cP DP dQ cI DX r hP AD oZ oZ) ?_
   rintro _ _ ⟨jB,cq,Dq,rfl,hDq,rfl⟩
   have hkA:∀e∈xm up 0 (SL.take i),e.1<((i+1:Nat):Int)/\1<=e.1:=fun e he=>by
    obtain ⟨j,s',h1, -,rfl⟩:=qA he
    have:=(List.getElem?_eq_some_iff.1 h1).1
    rw [List.length_take] at this
    simp only;omega
   have hnA:jU LA ((i+1:Nat):Int)=none:=by
    show aH LA _=none
    refine j0 ?_
    rw [<-I5.keys]
    intro h
    obtain ⟨e,he,e2⟩:=List.mem_map.1 h
    have:=(hkA e he).1
    omega
   have hnD:jU Ld ((i+1:Nat):Int)=none:=by
    show aH Ld _=none
    refine j0 ?_
    rw [<-U3.keys,AR,List.map_cons,List.map_map,List.mem_cons]
    rintro (h | h)
    ·simp only at h;omega
    ·obtain ⟨e,he,e2⟩:=List.mem_map.1 h
     have:=(hkA e he).1
     simp only [Function.comp] at e2
     omega
   refine gme ?_;intro c1 CA1 ma
   refine gms ?_;intro CA2 lA
   refine gme ?_;intro c2 CD2 Ci
   refine gms ?_;intro CD3 YL
   refine gn ?_
   refine ⟨(i+1,_,_,CA2,_,CD3,_),⟨by omega,lA,by rw [sJ,cw];exact I5.snoc ⟨a,rfl,By⟩,YL,by rw [AR,sJ,cw,List.map_append,<-List.cons_append];exact U3.snoc hDq⟩,by simp only;omega,aq,_,aa⟩
 ·obtain rfl:i=112:=by omega
  rw [List.take_of_length_le oZ] at I5 U3
  have hdn:((AR up mo SL).map (·.1)).Nodup:=by rw [U3.keys];exact hD.nodup
  have s7:∀e∈AR up mo SL,e.2.length<=200:=fun e he=>by
   rcases List.mem_cons.1 he with rfl | he
   ·exact aeQ
   ·obtain ⟨e',he',rfl⟩:=List.mem_map.1 he
    obtain ⟨j,s',h1,h2,rfl⟩:=qA he'
    have h3:=rW.len (s:=s') (Lo s' (List.mem_of_getElem? h1) h2)
    have h4:=k9 ((lL up s').ay++(lL up s').index)
    rw [List.length_append] at h4
    simp only [ej];omega
  obtain ⟨od,U4⟩:∃od,od=AR up mo SL:=⟨_,rfl⟩
  rw [<-U4] at U3 hdn s7 mu ⊢
  have hKn:∀K:List Pt,K.Nodup->(∀x∈K,x∈bc od)->(K.map (aM m)).Nodup/\(∀k∈K.map (aM m),(k+1:Int)*(m:Int)<=((bD pr ls.length n:Nat):Int))/\K.length<=1280:=fun K hK LH=>by
   have h1:(K.map (aM m)).Nodup:=List.pairwise_map.2 (hK.imp_of_mem fun ha hb eL e=>eL (mu.inj _ (LH _ ha) _ (LH _ hb) e))
   have h2:∀k∈K.map (aM m),(k+1:Int)*(m:Int)<=((bD pr ls.length n:Nat):Int):=fun k hk=>by
    obtain ⟨x,hx,rfl⟩:=List.mem_map.1 hk
    exact mu.bd x (LH x hx)
   refine ⟨h1,h2, ?_⟩
   have:=p7 1280 _ h1 fun k hk=>by
    have h3:=h2 k hk
    have h4:=Int.mul_le_mul_of_nonneg_left (show (8:Int)<=(m:Int) by omega) (show (0:Int)<=(k:Int)+1 by omega)
    omega
   rwa [List.length_map] at this
  have hK0:∀x∈bc od,x∈([]:List Pt)\/∃q∈Ld.map (·.1),∃l,aH od q=some l/\x∈l:=fun x hx=>.inr (by
   obtain ⟨e,he,ym⟩:=List.mem_flatMap.1 hx
   exact ⟨e.1,by rw [<-U3.keys];exact List.mem_map_of_mem he,e.2,lK hdn he,ym⟩)
  refine uM .i64 ?_;intro Xe AS Sk
  refine gr ?_;intro it DI hI
  refine gl [0,4,6,12,90] (fun ((QO,_):Value×List Pt×List (Int×Value)×Chunk×Chunk×Chunk)=>[(13,QO)]) (fun (_,_,_,M7,DI,E)=>[CD,DI,M7,E]) (fun (QO,K,rest,M7,DI,E)=>yf rd it .i64 Ld rest CD DI/\Cc Pt.lay Xe K M7/\(∃ad c,QO = .slice ad K.length c)/\az E 145 3 QO K.length ((KR m (K.map (aM m))).flatMap Pl.lay)/\K.Nodup/\(∀x∈K,x∈bc od)/\∀x∈bc od,x∈K\/∃q∈rest.map (·.1),∃l,aH od q=some l/\x∈l) (fun (_,_,rest,_)=>rest.length) (.slice none 0 0,[],Ld,AS,DI,[]) ⟨hI,Cc.start Sk,⟨none,0,rfl⟩,az.nil _ _,List.nodup_nil,fun _ h=>(List.not_mem_nil h).elim,hK0⟩ ?_
  clear hI Sk hK0
  rintro ⟨QO,K,rest,M7,DI,E⟩ ⟨hI,hK,⟨aad,c13,rfl⟩,hE,Xf,LH,UO⟩
  refine NM ?_ ?_
  ·rintro rfl
   have hD:=hI.mp
   obtain ⟨k1,k2,k3⟩:=hKn K Xf LH
   have han:=fun Dz QP cz QQ=>GS ((bD pr ls.length n:Nat):Int) (m:Nat) oZ oZ Dz QP cz QQ (K.map (aM m)) k1 k2 E aad c13 (by rw [List.length_map];exact hE.rd)
   rw [List.length_map] at han
   refine gc bu ?_
   rintro _ _ ⟨QP,cz,Dz,rfl,QQ,rfl⟩
   refine gc (han Dz QP cz QQ.rd) ?_
   rintro _ _ ⟨al,Al,rfl,hAl,rfl⟩
   refine gc qO ?_
   rintro _ _ ⟨rfl,C',V',bA,R6,rfl⟩
   refine gz ?_
   exact fin ⟨s,al,ra,rd,K.map (aM m),rfl,k1,fun k=>⟨fun h=>by
    obtain ⟨x,hx,e⟩:=List.mem_map.1 h
    exact ⟨x,LH x hx,e⟩,fun ⟨x,hx,e⟩=>by
    rcases UO x hx with h | ⟨q,hq, -⟩
    ·exact List.mem_map.2 ⟨x,h,e⟩
    ·cases hq⟩,C',V',LA,CA,VA,Ld,CD,VD,Al,bA,R6,hA,I5,hD,U3,hAl,rfl⟩ aa
  ·rintro X q v Y GR rfl gN qL hE'
   rcases U3.look q with ⟨h1, -⟩ | ⟨v',l,V1,D,V2,h1,h2,rfl,Bx, -, -⟩
   ·rw [gN] at h1;cases h1
   ·obtain rfl:v=v':=by rw [gN] at h1;exact Option.some.inj h1
    have Bx:az D 108 9 v l.length (aO l):=Bx
    have jw:=Bx.rd
    have iM:l.length<=200:=s7 _ (aI h2)
    obtain ⟨oH,cl,rfl⟩:=jw.slice
    refine NN ?_
    refine gs ?_
    refine gl [0,4,6,12,90,95,96] (fun ((i,QO,_):Nat×Value×List Pt×Chunk×Chunk)=>[(97,.int .i64 i),(13,QO)]) (fun (_,_,_,M7,E)=>[M7,E]) (fun (i,QO,K2,M7,E)=>i<=l.length/\Cc Pt.lay Xe K2 M7/\(∃ad c,QO = .slice ad K2.length c)/\az E 145 3 QO K2.length ((KR m (K2.map (aM m))).flatMap Pl.lay)/\K2.Nodup/\(∀x∈K2,x∈bc od)/\(∀x∈K,x∈K2)/\∀x∈l.take i,x∈K2) (fun (i,_)=>l.length - i) (0,.slice aad K.length c13,K,M7,E) ⟨by omega,hK,⟨aad,c13,rfl⟩,hE,Xf,LH,fun _ h=>h,fun x h=>by rw [List.take_zero] at h;cases h⟩ ?_
    clear hK hE Xf LH
    rintro ⟨i,QO,K2,M7,E⟩ ⟨hi,Z8,⟨acd,c14,rfl⟩,hE,Xf,LH,QD,jj⟩
    refine gi ?_ ?_ <;> intro pL
    ·have bm:i<l.length:=by omega
     obtain ⟨g,off,rfl⟩:=jw.addr oZ
     obtain ⟨x,hx⟩:∃x,x=l[i]:=⟨_,rfl⟩
     have hs:=ar (lay:=Pt.lay) (s:=9) (fun _=>rfl) l i x (by rw [hx];simp)
     have Ft:x∈bc od:=by rw [hx];exact wI h2 _ (List.getElem_mem bm)
     have mw:=I0 s t pool tp pr n ls no V hV ok dE (.pointer none) ra rd u.txg u.note x (mu.top x Ft)
     rw [<-hm,mu.at_ x Ft] at mw
     refine ga ?_;intro b17
     refine glu Pt.lay x ?_
     refine gi ?_ ?_ <;> intro jG
     ·have jG:x∉K2:=by simpa using jG
      have lY:=(hKn K2 Xf LH).2.2
      refine guu Pt.lay x ?_
      rw [if_neg jG]
      intro M8 hK3
      refine gc mw ?_
      rintro _ _ ⟨rfl,rfl⟩
      refine gm ?_;intro aga
      refine gp ?_;intro aeS c15 E15 aeT
      have ace:(K2++[x]).length=K2.length+1:=by simp
      refine gn ?_
      refine ⟨(i+1,_,K2++[x],M8,E15),⟨by omega,hK3,⟨aeS,c15,by rw [ace]⟩,by rw [ace];simpa [KR,Pl.lay,kP] using aeT, ?_,fun y hy => ?_,fun y hy=>List.mem_append_left _ (QD y hy),fun y hy => ?_⟩,by simp only;omega,aq,_,aa⟩
      ·rw [List.nodup_append]
       exact ⟨Xf,by simp,fun y hy z hz e=>by rw [List.mem_singleton.1 hz] at e;exact jG (e ▸ hy)⟩
      ·rcases List.mem_append.1 hy with hy | hy
       ·exact LH y hy
       ·rw [List.mem_singleton.1 hy];exact Ft
      ·rw [aG l bm] at hy
       rcases List.mem_append.1 hy with hy | hy
       ·exact List.mem_append_left _ (jj y hy)
       ·rw [List.mem_singleton.1 hy,<-hx];simp
     ·have jG:x∈K2:=by simpa using jG
      refine gn ?_
      refine ⟨(i+1,_,K2,M7,E),⟨by omega,Z8,⟨acd,c14,rfl⟩,hE,Xf,LH,QD,fun y hy => ?_⟩,by simp only;omega,aq,_,aa⟩
      rw [aG l bm] at hy
      rcases List.mem_append.1 hy with hy | hy
      ·exact jj y hy
      ·rw [List.mem_singleton.1 hy,<-hx];exact jG
    ·obtain rfl:i=l.length:=by omega
     rw [List.take_length] at jj
     refine gn ?_
     refine ⟨(_,K2,X++Y,M7,GR,E),⟨qL,Z8,⟨acd,c14,rfl⟩,hE,Xf,LH,fun x hx => ?_⟩,by simp only [List.length_append,List.length_cons];omega,aq,_,aa⟩
     rcases UO x hx with h | ⟨q',ni,l',lW,Fu⟩
     ·exact .inl (QD x h)
     ·rw [List.map_append,List.map_cons,List.mem_append,List.mem_cons] at ni
      rcases ni with ni | rfl | ni
      ·exact .inr ⟨q',by rw [List.map_append];exact List.mem_append_left _ ni,l',lW,Fu⟩
      ·rw [h2] at lW;cases lW;exact .inl (jj x Fu)
      ·exact .inr ⟨q',by rw [List.map_append];exact List.mem_append_right _ ni,l',lW,Fu⟩
end
set_option maxHeartbeats 4000000
section
variable (T:TypeId)(fr:Nat×Nat)(p:Nat)(qs:List Nat)(t pool:Nat)(tp:Tp)(pr:Bool)(n:Nat)(ls:List (Option Lv))(no:Nat)(V:Chunk)(hV:jb t pool tp pr n ls no V)(ok:dK tp pr n ls.length)(dE:n<=2048)(R:Rk)(C:Chunk)(hC:bq p qs R C)(ho:dJ qs R n ls)(hall:∀x∈ls,x≠none)(bZ:R.on)
include hV ok dE hC ho hall bZ
theorem U5 (hq:bD pr ls.length n / aN pr ls.length 1024 / 4<10) :
  Ct 12 [ptr t] [gK T fr,C,V] fun v Bs=>v = .tuple #[.pointer none,.int .i64 3]/\Bs=[gK T fr,C,V]:=by
 have _:=hC
 have _:=ho
 have _:=hall
 have _:=bZ
 have hz:=iB pr ok.hw ⟨ok.hn.1,dE⟩
 have ZB:=sI pr ok.hw ok.hp
 have bu:=Ay t pool tp pr n ls no V hV ok dE
 have fH:=fun s vA ra rd=>Az s t pool tp pr n ls no V hV ok dE vA ra rd 0 0
 have han:=fun Dz QP cz QQ=>GS ((bD pr ls.length n:Nat):Int) (aN pr ls.length 1024:Nat) oZ oZ Dz QP cz QQ [] List.nodup_nil (fun _ h=>by cases h) [] none 0 (Rd.nil [] 3)
 generalize bD pr ls.length n / aN pr ls.length 1024=q at *
 refine st Tryz.func12 fun w0 => ?_
 refine gc bu ?_
 rintro _ _ ⟨QP,cz,Dz,rfl,QQ,rfl⟩
 refine gc (han Dz QP cz QQ.rd) ?_
 rintro _ _ ⟨al,Al,rfl,hAl,rfl⟩
 refine uM .i64 ?_;intro ra CA hA
 refine uM .i64 ?_;intro rd CD hD
 refine ga ?_;intro s
 refine gc (fH s (ptr al) ra rd) ?_
 rintro _ _ ⟨rfl,rfl⟩
 refine gz ?_
 exact fin ⟨rfl,rfl⟩ aa
theorem aae (hq:10<=bD pr ls.length n / aN pr ls.length 1024 / 4)(hr:∀(i:Nat) (x:Lv),ls[i]? = some (some x)->iN R n x.i fun _ _=>none)(yi:pool<18446744073709551616)(hw:R.ws.length+80<=900000000000) :
  Ct 12 [ptr t] [gK T fr,C,V] fun v Bs=>∃s al ra rd,v = .tuple #[ptr s,.int .i64 0]/\∃C' CA CD Al,bq p qs ((R.run (oM n ls ⟨pool,1,0,ah⟩)).run (iH ls)) C'/\Mp ra .i64 [] CA/\Mp rd .i64 [] CD /\
   pd al ((bD pr ls.length n:Nat):Int) (aN pr ls.length 1024:Nat) ⟨[],[]⟩ Al/\Bs=[[(s,bR t (ptr al) ra rd 1 0)],gK T fr,C',V,CA,CD,Al]:=by
 have hz:=iB pr ok.hw ⟨ok.hn.1,dE⟩
 have ZB:=sI pr ok.hw ok.hp
 have bu:=Ay t pool tp pr n ls no V hV ok dE
 have fH:=fun s vA ra rd=>Az s t pool tp pr n ls no V hV ok dE vA ra rd 0 0
 have hbs:=Av T fr p qs t pool tp pr n ls no V hV ok hall R C hC ho bZ.2 (fun _ _ _=>none) hr [] (by simp) (fun _ _ _ _ h=>by cases h)
 have Bn:=fun s vA ra rd=>Ez T fr p qs t pool tp pr n ls no V hV ok hall R C hC ho bZ s vA ra rd 0 0 ah rfl (by refine ⟨?_, ?_, ?_, ?_, ?_, ?_, ?_, ?_, ?_⟩ <;> decide) 0 yi oZ oZ (Nat.zero_le _) hw
 have han:=fun Dz QP cz QQ=>GS ((bD pr ls.length n:Nat):Int) (aN pr ls.length 1024:Nat) oZ oZ Dz QP cz QQ [] List.nodup_nil (fun _ h=>by cases h) [] none 0 (Rd.nil [] 3)
 generalize hqd:bD pr ls.length n / aN pr ls.length 1024=q at *
 have hq2:q<=10240:=by rw [<-hqd];exact Nat.le_trans (Nat.div_le_self _ _) hz.2
 refine st Tryz.func12 fun w0 => ?_
 refine gc bu ?_
 rintro _ _ ⟨QP,cz,Dz,rfl,QQ,rfl⟩
 refine gc (han Dz QP cz QQ.rd) ?_
 rintro _ _ ⟨al,Al,rfl,hAl,rfl⟩
 refine uM .i64 ?_;intro ra CA hA
 refine uM .i64 ?_;intro rd CD hD
 refine ga ?_;intro s
 refine gc (fH s (ptr al) ra rd) ?_
 rintro _ _ ⟨rfl,rfl⟩
 refine gc hbs ?_
 rintro _ _ ⟨⟨x,hx,rfl⟩,rfl⟩
 obtain rfl:x=jq:=by
  rcases hx with ⟨h, -⟩ | ⟨⟨i,k,j, -, -, -,h, -⟩, -⟩
  ·exact h
  ·cases h
 refine ga ?_;intro b7
 refine gc (Bn s (ptr al) ra rd) ?_
 rintro _ _ ⟨rfl,C',bA,rfl⟩
 refine gz ?_
 exact fin ⟨s,al,ra,rd,rfl,C',CA,CD,Al,bA,hA,hD,hAl,rfl⟩ aa
end
theorem LI (s dT t:Nat)(vA:Value)(ra rd txg note:Nat)(H1 H2 H3 H4 H5 H6 H7 H8:Chunk)(Q:List Chunk->Prop)(hQ:∀Bs,Q Bs->∃a b c d e f g h i,Bs=[a,b,c,d,e,f,g,h,i])
  (h:Ct 114 [ptr s,.int .u64 dT] [[(s,bR t vA ra rd txg note)],H1,H2,H3,H4,H5,H6,H7,H8] fun u Bs=>u = .int .i64 0/\Q Bs) :
  Ct 51 [ptr s,.int .u64 dT] [[(s,bR t vA ra rd txg note)],H1,H2,H3,H4,H5,H6,H7,H8] fun u Bs=>u = .int .i64 0/\Q Bs:=by
 refine st Tryz.func51 fun w0 => ?_
 refine gc h ?_
 rintro _ Bs ⟨rfl,hB⟩
 obtain ⟨a,b,c,d,e,f,g,h,i,rfl⟩:=hQ Bs hB
 refine gz ?_
 exact fin ⟨rfl,hB⟩ aa
section
variable (T:TypeId)(fr:Nat×Nat)(p:Nat)(qs:List Nat)(t pool:Nat)(tp:Tp)(pr:Bool)(n:Nat)(ls:List (Option Lv))(no:Nat)(V:Chunk)(hV:jb t pool tp pr n ls no V)(ok:dK tp pr n ls.length)(dE:n<=2048)(R:Rk)(C:Chunk)(hC:bq p qs R C)(ho:dJ qs R n ls)(hall:∀x∈ls,x≠none)(bZ:R.off=false)
variable (s:Nat)(vA:Value)(ra rd txg note:Nat)(LA:List (Int×Value))(CA:Chunk)(hA:Mp ra .i64 LA CA)(all:List (Int×Ob))(VA:Chunk)(hG:eS wi LA all VA)(bu:∀e∈all,e.2.size<=65536)(hlen:all.length<=112)
include hV ok dE hA hG bu hlen hC ho hall bZ
theorem QR (k:Int)(hk:1<=k/\k<=112)(a m:Nat)(K5:a+m<=65536)(O:Chunk)(gh:Option Addr)(cb:Nat)(b:List UInt8)(dr:b.length=m)(hO:Rd O 1 (.slice gh m cb) m (ak b))(Hd:m<=cb)
  (dw:Pt->List UInt8) (PH:∀x∈(Ob.at all k).ay,x≠ah->K0 R ls pr n x (dw x)) (pg:∀e∈(Ob.at all k).fresh,e.2.length<=1024) (hf:og all k (max (Ob.at all k).size (a+m)) (bD pr ls.length n / aN pr ls.length 1024 / 4 - 10)=true) :
  Ct 42 [ptr s,.int .i64 k,.int .i64 a,.slice gh m cb] [[(s,bR t vA ra rd txg note)],gK T fr,C,V,CA,VA,O] fun u Bs=>u = .int .i64 0/\∃L' C' V' bW,(∀q,aH bW q=if cR a m q then some (jL ((Ob.at all k).byte dw) a b (max (Ob.at all k).size (a+m)) q.toNat) else aH (Ob.at all k).fresh q) /\
   Mp ra .i64 L' C'/\eS wi L' (ec all k { Ob.at all k with size:=max (Ob.at all k).size (a+m),fresh:=bW,clean:=false }) V'/\Bs=[[(s,bR t vA ra rd txg note)],gK T fr,C,V,C',V',O]:=by
 have hh:=jC k
 rw [decide_eq_true hk] at hh
 have bE:=rN s t pool tp pr n ls no V hV ok dE vA ra rd txg note LA CA hA all VA hG bu hlen k
 rcases hG.look k with ⟨h1,h2,bL⟩ | ⟨v',o,V1,D,V2,h1,h2,rfl,⟨ao,rfl,By⟩, -,bL⟩
 ·have gA:Ob.at all k=bB:=by unfold Ob.at;rw [h2];rfl
  rw [gA] at hf PH pg ⊢
  have hso:bB.size<=65536:=by simp only [bB];omega
  have bE:=bE (max bB.size (a+m)) oZ
  rw [hf] at bE
  obtain ⟨size,wo⟩:∃z,z=max bB.size (a+m):=⟨_,rfl⟩
  rw [<-wo] at bE ⊢
  obtain ⟨grown,FE⟩:∃g:Ob,g={ bB with size:=size,index:=[],clean:=false }:=⟨_,rfl⟩
  have QS:∀j,grown.byte dw j=bB.byte dw j:=fun j=>by rw [FE];rfl
  have aaf:grown.byte dw=bB.byte dw:=funext QS
  refine st Tryz.func42 fun w0 => ?_
  refine gc hh ?_
  rintro _ _ ⟨rfl,rfl⟩
  refine uM .i64 ?_;intro r CF hM
  refine ga ?_;intro ao
  refine go ?_
  rw [show max (0:Int) ((a+m:Nat):Int)=(size:Int) by rw [wo];simp only [bB];omega]
  refine gc bE ?_
  rintro _ _ ⟨rfl,rfl⟩
  refine gd [0,4,8,12,16,20,24,28,32,36,40,44,48,55,58] ?_
  refine ga ?_;intro g11
  refine uM .i64 ?_;intro Xe AS Sk
  have ef:=fun A hA i hi=>qd T fr p qs t pool tp pr n ls no V hV ok R C hC ho hall bZ s vA ra rd txg note g11 grown (by rw [FE];simp only;omega) A hA i hi dw (fun x hx=>PH x (List.mem_of_getElem? (show bB.ay[i]? = some x by rw [FE] at hx;exact hx))) (fun e he=>pg e (by rw [FE] at he;exact he))
  have ef:=ef ([(g11,xF bB.used size bB.root (.slice none bB.ay.length 0) (.slice none 0 0) r false)]++(([]:Chunk)++([]++(CF++([]:Chunk))))) (by rw [FE];exact ⟨none,0,([]:Chunk),none,0,[],r,[],CF,([]:Chunk),az.nil _ _,az.nil _ _,hM,rfl,rfl⟩)
  have hsg:∀i,grown.fO dw i=(List.range' (i*1024) (aS size i)).map (bB.byte dw):=fun i=>by rw [Ob.nC,Ob.me,aaf,FE]
  refine gl [0,1,2,3,9,10,11,12] (fun ((f,_):Nat×List (Int×Value)×List (Int×List UInt8)×Chunk×Chunk)=>[(13,.int .i64 f)]) (fun (_,_,_,AS,xN)=>[AS,xN]) (fun (f,QT,AT,AS,xN)=>a<=f/\f<=a+m/\(f<a+m->f=a\/f % 1024=0)/\Mp Xe .i64 QT AS/\eS lI QT AT xN/\∀q,aH AT q=if cR a (f - a) q then some (jL (bB.byte dw) a b size q.toNat) else none) (fun (f,_)=>a+m - f) (a,[],[],AS,[]) ⟨by omega,by omega,fun _=>.inl rfl,Sk,rfl,fun q=>by rw [if_neg (by simp [cR])];rfl⟩ ?_
  clear Sk
  rintro ⟨f,QT,AT,AS,xN⟩ ⟨hf1,xh,U6,Sk,Hq,qB⟩
  refine gi ?_ ?_ <;> intro bo
  ·have bo:f<a+m:=by omega
   have U6:=U6 bo
   obtain ⟨i,hi⟩:∃i,i=f / 1024:=⟨_,rfl⟩
   have hii:i<=100:=by omega
   have ef:=ef i hii
   rw [hsg] at ef
   obtain ⟨to,hto⟩:∃z,z=min ((i+1)*1024) (a+m):=⟨_,rfl⟩
   have hgs:grown.size=size:=by rw [FE]
   rw [hgs] at ef
   obtain ⟨L,hL⟩:∃L,L=aS size i:=⟨_,rfl⟩
   rw [<-hL] at ef
   have K9:L=min 1024 (size - i*1024):=hL
   obtain ⟨d,hd⟩:∃d,d=f - i*1024:=⟨_,rfl⟩
   have zV:=I4 (old:=bB.byte dw) (at_:=a) (b:=b) (size:=size) (i:=i) (f:=f) (d:=d) hL oZ hf1 oZ oZ oZ hd oZ
   have ou:((ak b).drop ((f - a)*1)).take ((to - a - (f - a))*1)=ak ((b.drop (f - a)).take (to - f)):=by
    rw [Nat.mul_one,Nat.mul_one,aY,aL,show to - a - (f - a)=to - f by omega]
   have aeU:to - a - (f - a)=to - f:=by omega
   have UA:(ak ((List.range' (i*1024) L).map (bB.byte dw))).take d++(ak ((b.drop (f - a)).take (to - f))).take (min (to - f) (L - d))++(ak ((List.range' (i*1024) L).map (bB.byte dw))).drop (d+min (to - f) (L - d))=ak (jL (bB.byte dw) a b size i):=by
    rw [show min (to - f) (L - d)=to - f by omega,<-zV,dr,<-hto,aE,aE,aL,aL,aY,List.take_take,Nat.min_self]
   have rO:=yG (a:=a) hi U6
   rcases Hq.look i with ⟨k1,k2,k3⟩ | ⟨v9,x9,W1,D9,W2,k1,k2, -⟩
   ·refine go ?_
    rw [<-hi,show min (((i+1)*1024:Nat):Int) ((a+m:Nat):Int)=(to:Int) by omega]
    refine gc ef ?_
    rintro _ _ ⟨g16,rfl,rfl⟩
    refine gs ?_
    have hrl:(List.range' (i*1024) L).length=L:=by simp
    subst hd
    refine gv ?_
    refine gw ?_;intro ad2 kD
    refine gy ?_
    refine gu ?_;intro aag aah
    have Pp:lI (.slice (some ⟨g16,0,none⟩) L L) (jL (bB.byte dw) a b size i) [(g16,ax (ak (jL (bB.byte dw) a b size i)) 5)]:=by
     unfold lI
     rw [iD,<-hL]
     exact Zy (by rw [iD,hL]) oZ
    refine gn ?_
    refine ⟨(to,_,_,aag,xN++[(g16,ax (ak (jL (bB.byte dw) a b size i)) 5)]),⟨by omega,by omega,fun h=>by omega,aah,k3 _ _ _ Pp,fun q => ?_⟩,by simp only;omega,aq,_,aa⟩
    rw [ig,qB,wv (g:=to) hi hf1 oZ oZ U6]
    by_cases c:(i:Int)=q
    ·subst c;simp
    ·have:¬q=(i:Int):=fun h=>c h.symm
     simp [c,this]
   ·rw [qB,rO] at k2;simp at k2
  ·obtain rfl:f=a+m:=by omega
   rw [show a+m - a=m by omega] at qB
   refine gr ?_
   intro it DI hI
   refine gl [0,1,9,149] (fun (_:List (Int×Value)×List (Int×List UInt8)×Chunk×Chunk×List (Int×Value)×List (Int×List UInt8)×Chunk×Chunk)=>[]) (fun (_,_,CF,VF,_,_,xN,DI)=>[CF,VF,xN,DI,AS]) (fun (LF,bW,CF,VF,rest,Mr,xN,DI)=>Mp r .i64 LF CF/\eS lI LF bW VF/\yf Xe it .i64 QT rest AS DI/\eS lI rest Mr xN/\(∀q x,aH Mr q=some x->aH AT q=some x)/\∀q,aH bW q=if (aH Mr q).isSome then aH bB.fresh q else (match aH AT q with | some x=>some x | none=>aH bB.fresh q)) (fun (_,_,_,_,rest,_)=>rest.length) ([],bB.fresh,CF,([]:Chunk),QT,AT,xN,DI) ⟨hM,rfl,hI,Hq,fun _ _ h=>h,fun q=>by cases aH AT q <;> rfl⟩ ?_
   clear hI Hq ef
   rintro ⟨Ei,bW,wg,AE,rest,Mr,aeV,GR⟩ ⟨hM',Lb,hI,UF,iY,QU⟩
   refine NM ?_ ?_
   ·rintro rfl
    have hMr:Mr=[]:=by
     cases Mr with
     | nil=>rfl
     | cons e _=>exact UF.elim
    subst hMr
    have nK:∀q,aH bW q=if cR a m q then some (jL (bB.byte dw) a b size q.toNat) else aH bB.fresh q:=fun q=>by
     rw [QU,qB]
     by_cases c:cR a m q=true
     ·rw [if_pos c,if_pos c];rfl
     ·rw [if_neg c,if_neg c];rfl
    refine gu ?_;intro CA' dY
    refine gz ?_
    exact fin ⟨rfl,_,CA',_,bW,nK,dY,bL (ptr ao) { bB with size:=size,fresh:=bW,clean:=false } ([(ao,xF bB.used size bB.root (.slice none 0 0) (.slice none 0 0) r false)]++([]++([]++(wg++AE)))) ⟨ao,rfl,_,_,[],_,_,[],r,Ei,wg,AE,az.nil _ _,az.nil _ _,hM',Lb,rfl⟩,rfl⟩ aa
   ·rintro X q v Y xI rfl gN qL hE
    have ek:=hI.nodup.1
    rw [<-UF.keys] at ek
    obtain ⟨MA,x,MB,U1,D9,U2,rfl,rfl,FD,QV⟩:=UF.pull
    have aai:=iY q x (eW ek (by simp))
    have G8:az D9 5 1 v x.length (ak x):=FD
    have EE:∀p x',aH (MA++MB) p=some x'->aH AT p=some x':=fun p x' h=>by
     rw [qg ek] at h
     split at h
     ·cases h
     ·exact iY p x' h
    have qN:∀p,aH (ec bW q x) p=if (aH (MA++MB) p).isSome then aH bB.fresh p else (match aH AT p with | some x=>some x | none=>aH bB.fresh p):=fun p=>by
     rw [ig,qg ek]
     by_cases c:p=q
     ·subst c;rw [if_pos rfl,if_pos rfl,aai];rfl
     ·rw [if_neg (fun h=>c h.symm),if_neg c,QU]
    have im:(X++Y).length<(X++(q,v) :: Y).length:=by simp only [List.length_append,List.length_cons];omega
    refine NN ?_
    rcases Lb.look q with ⟨-, -,Hr⟩ | ⟨v9,x9,W1,D0,W2, -, -,rfl, -, -,Hr⟩
    ·refine gs ?_
     refine gu ?_;intro P4 hM2
     refine gn ?_
     exact ⟨(_,_,P4,AE++D9,X++Y,MA++MB,U1++U2,xI),⟨hM2,Hr v x D9 FD,qL,QV,EE,qN⟩,im,aq,_,aa⟩
    ·refine gs ?_
     refine gu ?_;intro P4 hM2
     refine gn ?_
     exact ⟨(_,_,P4,W1++(D9++W2),X++Y,MA++MB,U1++U2,xI),⟨hM2,Hr v x D9 FD,qL,QV,EE,qN⟩,im,aq,_,aa⟩
 ·have gA:Ob.at all k=o:=by unfold Ob.at;rw [h2];rfl
  rw [gA] at hf PH pg ⊢
  have hso:o.size<=65536:=bu _ (aI h2)
  have bE:=bE (max o.size (a+m)) oZ
  rw [hf] at bE
  obtain ⟨size,wo⟩:∃z,z=max o.size (a+m):=⟨_,rfl⟩
  rw [<-wo] at bE ⊢
  obtain ⟨grown,FE⟩:∃g:Ob,g={ o with size:=size,index:=[],clean:=false }:=⟨_,rfl⟩
  have QS:∀j,grown.byte dw j=o.byte dw j:=fun j=>by rw [FE];rfl
  have aaf:grown.byte dw=o.byte dw:=funext QS
  obtain ⟨jl,cP,DP,dQ,cI,DX,r,LF,CF,VF,hP,AD,hM,hF,rfl⟩:=By
  refine st Tryz.func42 fun w0 => ?_
  refine gs ?_
  refine gc hh ?_
  rintro _ _ ⟨rfl,rfl⟩
  refine go ?_
  rw [show max (o.size:Int) ((a+m:Nat):Int)=(size:Int) by rw [wo];omega]
  refine gc bE ?_
  rintro _ _ ⟨rfl,rfl⟩
  refine gs ?_
  refine gd [0,4,8,12,16,20,24,28,32,36,40,44,48,55,58] ?_
  refine ga ?_;intro g11
  refine uM .i64 ?_;intro Xe AS Sk
  have ef:=fun A hA i hi=>qd T fr p qs t pool tp pr n ls no V hV ok R C hC ho hall bZ s vA ra rd txg note g11 grown (by rw [FE];simp only;omega) A hA i hi dw (fun x hx=>PH x (List.mem_of_getElem? (show o.ay[i]? = some x by rw [FE] at hx;exact hx))) (fun e he=>pg e (by rw [FE] at he;exact he))
  have ef:=ef ([(g11,xF o.used size o.root (.slice jl o.ay.length cP) (.slice none 0 0) r false)]++(DP++([]++(CF++VF)))) (by rw [FE];exact ⟨jl,cP,DP,none,0,[],r,LF,CF,VF,hP,az.nil _ _,hM,hF,rfl⟩)
  have hsg:∀i,grown.fO dw i=(List.range' (i*1024) (aS size i)).map (o.byte dw):=fun i=>by rw [Ob.nC,Ob.me,aaf,FE]
  refine gl [0,1,2,3,9,10,11,12] (fun ((f,_):Nat×List (Int×Value)×List (Int×List UInt8)×Chunk×Chunk)=>[(13,.int .i64 f)]) (fun (_,_,_,AS,xN)=>[AS,xN]) (fun (f,QT,AT,AS,xN)=>a<=f/\f<=a+m/\(f<a+m->f=a\/f % 1024=0)/\Mp Xe .i64 QT AS/\eS lI QT AT xN/\∀q,aH AT q=if cR a (f - a) q then some (jL (o.byte dw) a b size q.toNat) else none) (fun (f,_)=>a+m - f) (a,[],[],AS,[]) ⟨by omega,by omega,fun _=>.inl rfl,Sk,rfl,fun q=>by rw [if_neg (by simp [cR])];rfl⟩ ?_
  clear Sk
  rintro ⟨f,QT,AT,AS,xN⟩ ⟨hf1,xh,U6,Sk,Hq,qB⟩
  refine gi ?_ ?_ <;> intro bo
  ·have bo:f<a+m:=by omega
   have U6:=U6 bo
   obtain ⟨i,hi⟩:∃i,i=f / 1024:=⟨_,rfl⟩
   have hii:i<=100:=by omega
   have ef:=ef i hii
   rw [hsg] at ef
   obtain ⟨to,hto⟩:∃z,z=min ((i+1)*1024) (a+m):=⟨_,rfl⟩
   have hgs:grown.size=size:=by rw [FE]
   rw [hgs] at ef
   obtain ⟨L,hL⟩:∃L,L=aS size i:=⟨_,rfl⟩
   rw [<-hL] at ef
   have K9:L=min 1024 (size - i*1024):=hL
   obtain ⟨d,hd⟩:∃d,d=f - i*1024:=⟨_,rfl⟩
   have zV:=I4 (old:=o.byte dw) (at_:=a) (b:=b) (size:=size) (i:=i) (f:=f) (d:=d) hL oZ hf1 oZ oZ oZ hd oZ
   have ou:((ak b).drop ((f - a)*1)).take ((to - a - (f - a))*1)=ak ((b.drop (f - a)).take (to - f)):=by
    rw [Nat.mul_one,Nat.mul_one,aY,aL,show to - a - (f - a)=to - f by omega]
   have aeU:to - a - (f - a)=to - f:=by omega
   have UA:(ak ((List.range' (i*1024) L).map (o.byte dw))).take d++(ak ((b.drop (f - a)).take (to - f))).take (min (to - f) (L - d))++(ak ((List.range' (i*1024) L).map (o.byte dw))).drop (d+min (to - f) (L - d))=ak (jL (o.byte dw) a b size i):=by
    rw [show min (to - f) (L - d)=to - f by omega,<-zV,dr,<-hto,aE,aE,aL,aL,aY,List.take_take,Nat.min_self]
   have rO:=yG (a:=a) hi U6
   rcases Hq.look i with ⟨k1,k2,k3⟩ | ⟨v9,x9,W1,D9,W2,k1,k2, -⟩
   ·refine go ?_
    rw [<-hi,show min (((i+1)*1024:Nat):Int) ((a+m:Nat):Int)=(to:Int) by omega]
    refine gc ef ?_
    rintro _ _ ⟨g16,rfl,rfl⟩
    refine gs ?_
    have hrl:(List.range' (i*1024) L).length=L:=by simp
    subst hd
    refine gv ?_
    refine gw ?_;intro ad2 kD
    refine gy ?_
    refine gu ?_;intro aag aah
    have Pp:lI (.slice (some ⟨g16,0,none⟩) L L) (jL (o.byte dw) a b size i) [(g16,ax (ak (jL (o.byte dw) a b size i)) 5)]:=by
     unfold lI
     rw [iD,<-hL]
     exact Zy (by rw [iD,hL]) oZ
    refine gn ?_
    refine ⟨(to,_,_,aag,xN++[(g16,ax (ak (jL (o.byte dw) a b size i)) 5)]),⟨by omega,by omega,fun h=>by omega,aah,k3 _ _ _ Pp,fun q => ?_⟩,by simp only;omega,aq,_,aa⟩
    rw [ig,qB,wv (g:=to) hi hf1 oZ oZ U6]
    by_cases c:(i:Int)=q
    ·subst c;simp
    ·have:¬q=(i:Int):=fun h=>c h.symm
     simp [c,this]
   ·rw [qB,rO] at k2;simp at k2
  ·obtain rfl:f=a+m:=by omega
   rw [show a+m - a=m by omega] at qB
   refine gr ?_
   intro it DI hI
   refine gl [0,1,9,149] (fun (_:List (Int×Value)×List (Int×List UInt8)×Chunk×Chunk×List (Int×Value)×List (Int×List UInt8)×Chunk×Chunk)=>[]) (fun (_,_,CF,VF,_,_,xN,DI)=>[CF,VF,xN,DI,AS]) (fun (LF,bW,CF,VF,rest,Mr,xN,DI)=>Mp r .i64 LF CF/\eS lI LF bW VF/\yf Xe it .i64 QT rest AS DI/\eS lI rest Mr xN/\(∀q x,aH Mr q=some x->aH AT q=some x)/\∀q,aH bW q=if (aH Mr q).isSome then aH o.fresh q else (match aH AT q with | some x=>some x | none=>aH o.fresh q)) (fun (_,_,_,_,rest,_)=>rest.length) (LF,o.fresh,CF,VF,QT,AT,xN,DI) ⟨hM,hF,hI,Hq,fun _ _ h=>h,fun q=>by cases aH AT q <;> rfl⟩ ?_
   clear hI Hq ef
   rintro ⟨Ei,bW,wg,AE,rest,Mr,aeV,GR⟩ ⟨hM',Lb,hI,UF,iY,QU⟩
   refine NM ?_ ?_
   ·rintro rfl
    have hMr:Mr=[]:=by
     cases Mr with
     | nil=>rfl
     | cons e _=>exact UF.elim
    subst hMr
    have nK:∀q,aH bW q=if cR a m q then some (jL (o.byte dw) a b size q.toNat) else aH o.fresh q:=fun q=>by
     rw [QU,qB]
     by_cases c:cR a m q=true
     ·rw [if_pos c,if_pos c];rfl
     ·rw [if_neg c,if_neg c];rfl
    refine gu ?_;intro CA' dY
    refine gz ?_
    exact fin ⟨rfl,_,CA',_,bW,nK,dY,bL (ptr ao) { o with size:=size,fresh:=bW,clean:=false } ([(ao,xF o.used size o.root (.slice jl o.ay.length cP) (.slice dQ o.index.length cI) r false)]++(DP++(DX++(wg++AE)))) ⟨ao,rfl,_,_,DP,_,_,DX,r,Ei,wg,AE,hP,AD,hM',Lb,rfl⟩,rfl⟩ aa
   ·rintro X q v Y xI rfl gN qL hE
    have ek:=hI.nodup.1
    rw [<-UF.keys] at ek
    obtain ⟨MA,x,MB,U1,D9,U2,rfl,rfl,FD,QV⟩:=UF.pull
    have aai:=iY q x (eW ek (by simp))
    have G8:az D9 5 1 v x.length (ak x):=FD
    have EE:∀p x',aH (MA++MB) p=some x'->aH AT p=some x':=fun p x' h=>by
     rw [qg ek] at h
     split at h
     ·cases h
     ·exact iY p x' h
    have qN:∀p,aH (ec bW q x) p=if (aH (MA++MB) p).isSome then aH o.fresh p else (match aH AT p with | some x=>some x | none=>aH o.fresh p):=fun p=>by
     rw [ig,qg ek]
     by_cases c:p=q
     ·subst c;rw [if_pos rfl,if_pos rfl,aai];rfl
     ·rw [if_neg (fun h=>c h.symm),if_neg c,QU]
    have im:(X++Y).length<(X++(q,v) :: Y).length:=by simp only [List.length_append,List.length_cons];omega
    refine NN ?_
    rcases Lb.look q with ⟨-, -,Hr⟩ | ⟨v9,x9,W1,D0,W2, -, -,rfl, -, -,Hr⟩
    ·refine gs ?_
     refine gu ?_;intro P4 hM2
     refine gn ?_
     exact ⟨(_,_,P4,AE++D9,X++Y,MA++MB,U1++U2,xI),⟨hM2,Hr v x D9 FD,qL,QV,EE,qN⟩,im,aq,_,aa⟩
    ·refine gs ?_
     refine gu ?_;intro P4 hM2
     refine gn ?_
     exact ⟨(_,_,P4,W1++(D9++W2),X++Y,MA++MB,U1++U2,xI),⟨hM2,Hr v x D9 FD,qL,QV,EE,qN⟩,im,aq,_,aa⟩
end
end Go.Proofs.YteldablklnfblaaGreatDoor
namespace Go.Sl
def oY (pr:Bool)(w:Nat)(R:Rk)(at_:Nat)(b:List UInt8):Prop :=
 if pr then ∀(j:Nat) (s:eG),(ja w b)[j]? = some s->R.now ((at_+j) % w) (274+(at_+j) / w)=s
 else ∀i,i<w->∀(j:Nat) (s:eG),(kL b)[j]? = some s->R.now i (274+at_+j)=s
theorem U7 {R:Rk}{i a:Nat}{l:List eG}(h:∀(j:Nat) (s:eG),l[j]? = some s->R.now i (a+j)=s)(ha:a+l.length<=R.size i):R.rC i a l.length=l.flatten:=by
 unfold Rk.rC
 unfold Rk.size at ha
 cases hx:R.ds[i]? with
 | none =>
  rw [hx] at ha
  simp only [Option.map_none,Option.getD_none] at ha
  obtain rfl:l=[]:=List.eq_nil_of_length_eq_zero oZ
  simp
 | some d =>
  rw [hx] at ha
  simp only [Option.map_some,Option.getD_some] at ha ⊢
  congr 1
  apply List.ext_getElem (by rw [List.length_take,List.length_drop];omega)
  intro j h1 h2
  have:=h j l[j] (List.getElem?_eq_getElem h2)
  unfold Rk.now at this
  rw [hx] at this
  simp only [Option.bind_some] at this
  rw [List.getElem?_eq_getElem oZ,Option.getD_some] at this
  rw [List.getElem_take,List.getElem_drop]
  exact this
section
variable {pr:Bool}{ls:List (Option Lv)}{n:Nat}{R R':Rk}{at_:Nat}{b:List UInt8}
theorem aj {w:Nat}(hp:pr=true->3<=w)(b:List UInt8):(if pr then (ja w b).length else (kL b).length)=aN pr w b.length:=by
 cases pr with
 | true=>have:=hp rfl;rw [if_pos rfl,aN,if_pos rfl,pY oZ]
 | false=>rw [if_neg (by simp),aN,if_neg (by simp),gY]
theorem AU {w n x at_ N:Nat}(hx:x<N)(h:at_+N<=w*(n - 292))(hn:324<=n):274+(at_+x) / w<n - 18:=by
 have:(at_+x) / w<n - 292:=Nat.div_lt_of_lt_mul oZ
 omega
theorem QW (hI:wC ls)(hn:324<=n)(bu:∀i,i<ls.length->R.size i=n)(hf:at_+aN pr ls.length b.length<=bD pr ls.length n)(h:oY pr ls.length R at_ b):vz pr R ls at_ b:=by
 cases pr with
 | true =>
  rw [oY,if_pos rfl] at h
  rw [vz,if_pos rfl]
  intro j s x hj hx
  rw [(hI.at hx).1]
  exact h j s hj
 | false =>
  rw [oY,if_neg (by simp)] at h
  rw [vz,if_neg (by simp)]
  rw [aN,if_neg (by simp),bD,if_neg (by simp)] at hf
  intro x hx
  obtain ⟨k,hk⟩:=List.mem_iff_getElem?.1 hx
  obtain ⟨h1,h2⟩:=hI.at hk
  rw [h1,<-gY,U7 (h k h2) (by rw [gY,bu k h2];omega),(kM b).2]
theorem Hs {w:Nat}(hn:324<=n)(hp:pr=true->3<=w)(hf:at_+aN pr w b.length<=bD pr w n)(hR:∀i,i<w->∀a,274<=a->a<n - 18->R'.now i a=R.now i a)(h:oY pr w R at_ b):oY pr w R' at_ b:=by
 have hl:=aj hp b
 cases pr with
 | true =>
  have:=hp rfl
  rw [oY,if_pos rfl] at h ⊢
  rw [if_pos rfl] at hl
  rw [bD,if_pos rfl] at hf
  intro j s hj
  have pj:=(List.getElem?_eq_some_iff.1 hj).1
  rw [hR _ (Nat.mod_lt _ oZ) _ (Nat.le_add_right _ _) (AU oZ hf hn)]
  exact h j s hj
 | false =>
  rw [oY,if_neg (by simp)] at h ⊢
  rw [if_neg (by simp)] at hl
  rw [bD,if_neg (by simp)] at hf
  intro i hi j s hj
  have pj:=(List.getElem?_eq_some_iff.1 hj).1
  rw [hR i hi _ oZ oZ]
  exact h i hi j s hj
theorem wK {w x y:Nat}(h1:x % w=y % w)(h2:x / w=y / w):x=y:=by
 have e1:=Nat.div_add_mod x w
 have e2:=Nat.div_add_mod y w
 rw [h1,h2] at e1;omega
theorem LJ (hI:wC ls)(bZ:R.on)(hn:324<=n)(hp:pr=true->3<=ls.length)(bu:∀i,i<ls.length->R.size i=n)(hf:at_+aN pr ls.length b.length<=bD pr ls.length n):oY pr ls.length (R.run (s9 pr ls at_ b)) at_ b:=by
 have hl:=aj hp b
 have hm:=fun (i a:Nat) (s:eG)=>AJ hI (pr:=pr) (at_:=at_) (bs:=b) (fun h=>by have:=hp h;omega) (i:=i) (a:=a) (b:=s)
 cases pr with
 | true =>
  have:=hp rfl
  rw [oY,if_pos rfl]
  rw [if_pos rfl] at hl
  rw [bD,if_pos rfl] at hf
  intro j s hj
  have pj:=(List.getElem?_eq_some_iff.1 hj).1
  have hr:=AU (x:=j) oZ hf hn
  refine hY bZ (by rw [bu _ (Nat.mod_lt _ oZ)];omega) (fun b' hb => ?_) ((hm _ _ _).2 (by rw [if_pos rfl];exact ⟨j,hj,rfl,rfl⟩))
  have hb:=(hm _ _ _).1 hb
  rw [if_pos rfl] at hb
  obtain ⟨j',h1,h2,h3⟩:=hb
  have:=wK h2 oZ
  obtain rfl:j=j':=by omega
  rw [hj] at h1;exact (Option.some.inj h1).symm
 | false =>
  rw [oY,if_neg (by simp)]
  rw [if_neg (by simp)] at hl
  rw [bD,if_neg (by simp)] at hf
  intro i hi j s hj
  have pj:=(List.getElem?_eq_some_iff.1 hj).1
  refine hY bZ (by rw [bu _ hi];omega) (fun b' hb => ?_) ((hm _ _ _).2 (by rw [if_neg (by simp)];exact ⟨hi,j,hj,rfl⟩))
  have hb:=(hm _ _ _).1 hb
  rw [if_neg (by simp)] at hb
  obtain ⟨-,j',h1,h3⟩:=hb
  obtain rfl:j=j':=by omega
  rw [hj] at h1;exact (Option.some.inj h1).symm
theorem Ht (hI:wC ls)(hp:pr=true->3<=ls.length){at':Nat}{b':List UInt8}(hd:at_+aN pr ls.length b.length<=at'\/at'+aN pr ls.length b'.length<=at_)(h:oY pr ls.length R at_ b):oY pr ls.length (R.run (s9 pr ls at' b')) at_ b:=by
 have hl:=aj hp b
 have lW:=aj hp b'
 have hm:=fun (i a:Nat) (s:eG)=>AJ hI (pr:=pr) (at_:=at') (bs:=b') (fun h=>by have:=hp h;omega) (i:=i) (a:=a) (b:=s)
 cases pr with
 | true =>
  have:=hp rfl
  rw [oY,if_pos rfl] at h ⊢
  rw [if_pos rfl] at hl lW
  intro j s hj
  have pj:=(List.getElem?_eq_some_iff.1 hj).1
  rw [bJ fun b2 hb => ?_]
  ·exact h j s hj
  ·have hb:=(hm _ _ _).1 hb
   rw [if_pos rfl] at hb
   obtain ⟨j',h1,h2,h3⟩:=hb
   have aeW:=(List.getElem?_eq_some_iff.1 h1).1
   have:=wK h2 oZ
   omega
 | false =>
  rw [oY,if_neg (by simp)] at h ⊢
  rw [if_neg (by simp)] at hl lW
  intro i hi j s hj
  have pj:=(List.getElem?_eq_some_iff.1 hj).1
  rw [bJ fun b2 hb => ?_]
  ·exact h i hi j s hj
  ·have hb:=(hm _ _ _).1 hb
   rw [if_neg (by simp)] at hb
   obtain ⟨-,j',h1,h3⟩:=hb
   have aeW:=(List.getElem?_eq_some_iff.1 h1).1
   omega
theorem aaj (hI:wC ls)(hn:324<=n)(hp:pr=true->3<=ls.length)(hf:at_+aN pr ls.length b.length<=bD pr ls.length n){i a:Nat}{s:eG}(h:Ev.w i a s∈s9 pr ls at_ b):i<ls.length/\274<=a/\a<n - 18:=by
 have hl:=aj hp b
 have h:=(AJ hI (pr:=pr) (at_:=at_) (bs:=b) (fun h=>by have:=hp h;omega)).1 h
 cases pr with
 | true =>
  have:=hp rfl
  rw [if_pos rfl] at h hl
  rw [bD,if_pos rfl] at hf
  obtain ⟨j,h1,rfl,rfl⟩:=h
  have pj:=(List.getElem?_eq_some_iff.1 h1).1
  exact ⟨Nat.mod_lt _ oZ,Nat.le_add_right _ _,AU oZ hf hn⟩
 | false =>
  rw [if_neg (by simp)] at h hl
  rw [bD,if_neg (by simp)] at hf
  obtain ⟨hi,j,h1,rfl⟩:=h
  have pj:=(List.getElem?_eq_some_iff.1 h1).1
  exact ⟨hi,by omega,by omega⟩
end
set_option maxRecDepth 10000
structure dt where
 x:Pt
 b:List UInt8
 g:List Pt
section
variable (pr:Bool)(w n:Nat)
structure sP (R:Rk)(e:dt):Prop where
 cu:e.x.cu
 ok:e.x.Ok
 top:e.x.top=0
 len:e.x.bytes=e.b.length
 bd:1<=e.b.length/\e.b.length<=1024
 at_:e.x.at_=((aM (aN pr w 1024) e.x*aN pr w 1024:Nat):Int)
 fit:(aM (aN pr w 1024) e.x+1)*aN pr w 1024<=bD pr w n
 sum:sW e.x.kind ⟨e.x.a,e.x.b,e.x.c,e.x.d⟩ e.b=true
 has:oY pr w R (aM (aN pr w 1024) e.x*aN pr w 1024) e.b
structure dU (R:Rk)(pm:List dt):Prop where
 Hu:∀e∈pm,sP pr w n R e
 inj:pm.Pairwise fun e f=>aM (aN pr w 1024) e.x≠aM (aN pr w 1024) f.x
end
structure qC (n:Nat)(R R':Rk):Prop where
 on:R'.on
 now:∀i a,(a<274\/n - 18<=a)->R'.now i a=R.now i a
 pl:∀i a,R'.pl i a=R.pl i a
 size:∀i,R'.size i=R.size i
 live:∀i,R'.live i↔R.live i
theorem qC.rfl {n:Nat}{R:Rk}(h:R.on):qC n R R:=⟨h,fun _ _ _=>Eq.refl _,fun _ _=>Eq.refl _,fun _=>Eq.refl _,fun _=>Iff.rfl⟩
theorem qC.trans {n:Nat}{R S T:Rk}(h:qC n R S)(k:qC n S T):qC n R T:=⟨k.on,fun i a c=>(k.now i a c).trans (h.now i a c),fun i a=>(k.pl i a).trans (h.pl i a),fun i=>(k.size i).trans (h.size i),fun i=>(k.live i).trans (h.live i)⟩
theorem AV {α:Type}{r:α->α->Prop}{l:List α}{x:α}(h:l.Pairwise r)(k:∀y∈l,r y x):(l++[x]).Pairwise r:=by
 rw [List.pairwise_append]
 exact ⟨h,List.pairwise_singleton _ _,fun y hy z hz=>by rw [List.mem_singleton.1 hz];exact k y hy⟩
section
variable {pr:Bool}{w n:Nat}{R R':Rk}{pm:List dt}{e f:dt}
theorem dU.one (h:dU pr w n R pm)(he:e∈pm)(hf:f∈pm)(hx:aM (aN pr w 1024) e.x=aM (aN pr w 1024) f.x):e=f:=by
 obtain ⟨i,hi,rfl⟩:=List.getElem_of_mem he
 obtain ⟨j,hj,rfl⟩:=List.getElem_of_mem hf
 have g:=List.pairwise_iff_getElem.1 h.inj
 rcases Nat.lt_trichotomy i j with c | c | c
 ·exact absurd hx (g i j hi hj c)
 ·subst c;rfl
 ·exact absurd hx.symm (g j i hj hi c)
theorem sP.room (h:sP pr w n R e)(hw:1<=w/\w<=5)(hp:pr=true->3<=w):aM (aN pr w 1024) e.x*aN pr w 1024+aN pr w e.b.length<=bD pr w n:=by
 have h1:=h.fit
 rw [Nat.succ_mul] at h1
 have:=qi (pr:=pr) (w:=w) (b:=e.b.length) hw hp h.bd.2
 omega
theorem sP.congr (h:sP pr w n R e)(hn:324<=n)(hw:1<=w/\w<=5)(hp:pr=true->3<=w)(hR:∀i,i<w->∀a,274<=a->a<n - 18->R'.now i a=R.now i a):sP pr w n R' e :=
 ⟨h.cu,h.ok,h.top,h.len,h.bd,h.at_,h.fit,h.sum,Hs hn hp (h.room hw hp) hR h.has⟩
theorem dU.congr (h:dU pr w n R pm)(hn:324<=n)(hw:1<=w/\w<=5)(hp:pr=true->3<=w)(hR:∀i,i<w->∀a,274<=a->a<n - 18->R'.now i a=R.now i a):dU pr w n R' pm:=⟨fun e he=>(h.Hu e he).congr hn hw hp hR,h.inj⟩
theorem dU.filter (h:dU pr w n R pm)(q:dt->Bool):dU pr w n R (pm.filter q):=⟨fun e he=>h.Hu e (List.mem_filter.1 he).1,h.inj.sublist List.filter_sublist⟩
theorem sP.Sj {ls:List (Option Lv)}(hI:wC ls)(h:sP pr ls.length n R e)(hn:324<=n)(hw:1<=ls.length/\ls.length<=5)(hp:pr=true->3<=ls.length)(bu:∀i,i<ls.length->R.size i=n):K0 R ls pr n e.x e.b:=by
 have hr:=h.room hw hp
 have gA:e.x.at_.toNat=aM (aN pr ls.length 1024) e.x*aN pr ls.length 1024:=by rw [h.at_];exact Int.toNat_natCast _
 exact ⟨h.cu,h.ok,h.top,h.len,h.bd,by rw [h.at_];omega,h.sum,by rw [gA];exact QW hI hn bu hr h.has⟩
end
theorem LK {m k gt:Nat}{b:List UInt8}(hm:0<m):aM m (GA (k*m) gt b 2)=k:=by
 unfold aM GA
 simp only [Int.natCast_mul]
 rw [Int.mul_ediv_cancel _ oZ,Int.toNat_natCast]
structure QX (pr:Bool)(n:Nat)(ls:List (Option Lv))(P:PS)(pm:List dt):Prop where
 on:P.R.on
 sz:∀i,i<ls.length->P.R.size i=n
 po:dU pr ls.length n P.R pm
 dd:∀e∈pm,aM (aN pr ls.length 1024) e.x∈P.x.D
 nd:P.x.D.Nodup
structure Grow (pr:Bool)(n gt:Nat)(ls:List (Option Lv))(P:PS)(pm:List dt)(P':PS)(nw:List dt):Prop where
 xj:QX pr n ls P' (pm++nw)
 dat:qC n P.R P'.R
 ds:∀k∈P'.x.D,k∈P.x.D\/∃e∈nw,aM (aN pr ls.length 1024) e.x=k
 bh:∀e∈nw,e.x.bh=gt
 fr:∀e∈nw,aM (aN pr ls.length 1024) e.x∉P.x.D
 sub:∀k∈P.x.D,k∈P'.x.D
section
variable {pr:Bool}{n gt:Nat}{ls:List (Option Lv)}{P P1 P':PS}{pm n1 n2:List dt}
theorem Grow.rfl (h:QX pr n ls P pm):Grow pr n gt ls P pm P []:=⟨by rw [List.append_nil];exact h,.rfl h.on,fun k hk=>.inl hk,(fun _ h=>by cases h),(fun _ h=>by cases h),fun _ h=>h⟩
theorem Grow.trans (h:Grow pr n gt ls P pm P1 n1)(k:Grow pr n gt ls P1 (pm++n1) P' n2):Grow pr n gt ls P pm P' (n1++n2):=by
 refine ⟨by rw [<-List.append_assoc];exact k.xj,h.dat.trans k.dat,fun x hx => ?_,fun e he=>(List.mem_append.1 he).elim (h.bh e) (k.bh e),fun e he => ?_,fun x hx=>k.sub x (h.sub x hx)⟩
 rcases k.ds x hx with hx | ⟨e,he,hx⟩
 ·rcases h.ds x hx with hx | ⟨e,he,hx⟩
  ·exact .inl hx
  ·exact .inr ⟨e,List.mem_append_left _ he,hx⟩
 ·exact .inr ⟨e,List.mem_append_right _ he,hx⟩
 ·rcases List.mem_append.1 he with he | he
  ·exact h.fr e he
  ·exact fun c=>k.fr e he (h.sub _ c)
variable (hI:wC ls)(hn:324<=n/\n<=2048)(hw:1<=ls.length/\ls.length<=5)(hp:pr=true->3<=ls.length)(ic:1<=gt/\gt<=281474976710656)
include hI hn hw hp ic
theorem l8.grow {b:List UInt8}{pt:Pt}(h:l8 pr ls n gt P b P' pt)(hs:QX pr n ls P pm)(hb:b.length<=1024)(g:List Pt):(pt=ah/\bp b=true/\P'=P)\/(pt≠ah/\bp b=false/\Grow pr n gt ls P pm P' [⟨pt,b,g⟩]):=by
 rcases h with ⟨h1,h2,h3⟩ | ⟨h1,k,hk,jE,rfl,rfl⟩
 ·exact .inl ⟨h3,h1,h2⟩
 ·right
  have hm:=(sI pr hw hp).1
  have hz:=iB pr hw hn
  have Dy:(k+1)*aN pr ls.length 1024<=bD pr ls.length n:=by
   have:(((k+1)*aN pr ls.length 1024:Nat):Int)<=(bD pr ls.length n:Nat):=by rw [Int.natCast_mul];exact jE
   omega
  have agb:k*aN pr ls.length 1024+aN pr ls.length 1024<=bD pr ls.length n:=by rw [Nat.succ_mul] at Dy;exact Dy
  have Lj:=qi (pr:=pr) (w:=ls.length) (b:=b.length) hw hp hb
  have CV:1<=b.length:=by
   cases b with
   | nil=>cases h1
   | cons _ _=>simp
  obtain ⟨p1,p2, -,p4⟩:=Qv (at_:=k*aN pr ls.length 1024) (gt:=gt) (b:=b) oZ ⟨CV,hb⟩ ic
  have uG:=LK (m:=aN pr ls.length 1024) (k:=k) (gt:=gt) (b:=b) oZ
  have jG:=fun i a s=>aaj (i:=i) (a:=a) (s:=s) (pr:=pr) (at_:=k*aN pr ls.length 1024) (b:=b) hI hn.1 hp oZ
  refine ⟨p4,h1,⟨⟨hs.on.run _,fun i hi=>by rw [Rk.dj];exact hs.sz i hi,⟨fun e he => ?_, ?_⟩,fun e he => ?_,List.nodup_cons.2 ⟨hk,hs.nd⟩⟩,⟨hs.on.run _,fun i a ha => ?_,fun i a=>Hg fun d=>Qm,fun i=>Rk.dj ..,fun i=>Rk.eh ..⟩,fun j hj => ?_,fun e he => ?_,fun e he => ?_,fun j hj=>List.mem_cons_of_mem _ hj⟩⟩
  ·rcases List.mem_append.1 he with he | he
   ·have ho:=hs.po.Hu e he
    have eL:aM (aN pr ls.length 1024) e.x≠k:=fun c=>hk (c ▸ hs.dd e he)
    have agc:=qi (pr:=pr) (w:=ls.length) (b:=e.b.length) hw hp ho.bd.2
    refine ⟨ho.cu,ho.ok,ho.top,ho.len,ho.bd,ho.at_,ho.fit,ho.sum,Ht hI hp ?_ ho.has⟩
    rcases Nat.lt_or_gt_of_ne eL with c | c
    ·left
     have:=Nat.mul_le_mul_right (aN pr ls.length 1024) (show aM (aN pr ls.length 1024) e.x+1<=k from c)
     rw [Nat.succ_mul] at this;omega
    ·right
     have:=Nat.mul_le_mul_right (aN pr ls.length 1024) (show k+1<=aM (aN pr ls.length 1024) e.x from c)
     rw [Nat.succ_mul] at this;omega
   ·obtain rfl:=List.mem_singleton.1 he
    refine ⟨p1,p2,rfl,rfl,⟨CV,hb⟩,by rw [uG];rfl,by rw [uG];exact Dy, ?_,by rw [uG];exact LJ hI hs.on hn.1 hp hs.sz oZ⟩
    exact J7 (.inr rfl) b
  ·refine AV hs.po.inj fun e he => ?_
   rw [uG]
   exact fun c=>hk (c ▸ hs.dd e he)
  ·rcases List.mem_append.1 he with he | he
   ·exact List.mem_cons_of_mem _ (hs.dd e he)
   ·rw [List.mem_singleton.1 he,uG];exact List.mem_cons_self ..
  ·exact bJ fun s Mn=>by have:=jG i a s Mn;omega
  ·rcases List.mem_cons.1 hj with rfl | hj
   ·exact .inr ⟨_,List.mem_singleton.2 rfl,uG⟩
   ·exact .inl hj
  ·rw [List.mem_singleton.1 he];rfl
  ·rw [List.mem_singleton.1 he,uG];exact hk
end
def cJ (l:List Pt)(i:Nat):Pt:=(l[i]?).getD ah
theorem U8 (l:List Pt)(k i:Nat):cJ (oR l k) i=cJ l i:=by
 unfold cJ oR
 by_cases c:i<l.length
 ·rw [List.getElem?_append_left c]
 ·rw [List.getElem?_append_right oZ,List.getElem?_replicate,List.getElem?_eq_none oZ]
  split <;> rfl
theorem U9 {l:List Pt}{k:Nat}(p:Pt)(i:Nat)(h:k<l.length):cJ (l.set k p) i=if i=k then p else cJ l i:=by
 unfold cJ
 by_cases c:i=k
 ·subst c;rw [if_pos rfl,List.getElem?_set_self h];rfl
 ·rw [if_neg c,List.getElem?_set_ne (fun e=>c e.symm)]
theorem lN {l:List Pt}{i:Nat}:cJ l i=ah\/cJ l i∈l:=by
 unfold cJ
 cases h:l[i]? with
 | none=>exact .inl rfl
 | some x=>exact .inr (List.mem_of_getElem? h)
theorem Hv {l:List Pt}{x:Pt}(h:x∈l):∃i,i<l.length/\cJ l i=x:=by
 obtain ⟨i,hi,rfl⟩:=List.getElem_of_mem h
 exact ⟨i,hi,by unfold cJ;rw [List.getElem?_eq_getElem hi];rfl⟩
theorem iF {l:List Pt}{i:Nat}(h:l.length<=i):cJ l i=ah:=by unfold cJ;rw [List.getElem?_eq_none h];rfl
theorem EF (l:List Pt)(x:Pt)(i:Nat):cJ (l++[x]) i=if i=l.length then x else cJ l i:=by
 unfold cJ
 by_cases c:i<l.length
 ·rw [List.getElem?_append_left c,if_neg oZ]
 ·by_cases d:i=l.length
  ·subst d;rw [if_pos rfl];simp
  ·rw [if_neg d,List.getElem?_append_right oZ,List.getElem?_eq_none (by simp;omega),List.getElem?_eq_none oZ]
theorem wM:di ah=List.replicate 64 0:=by decide
theorem EG {x:Pt}(h:fB x=0)(ho:x.Ok)(hb:∀y∈di x,y=0):x=ah:=by
 have e:di x=di ah:=by
  rw [wM,List.eq_replicate_iff]
  exact ⟨aZ x,hb⟩
 have e1:=oB h ho
 rw [e,oB (by simp [fB]) dx] at e1
 exact e1.symm
theorem wO {l:List Pt}(h:∀x∈l,fB x=0/\x.Ok):bp (fS l)=true↔∀x∈l,x=ah:=by
 rw [fw]
 constructor
 ·intro hb x hx
  exact EG (h x hx).1 (h x hx).2 fun y hy=>hb y (List.mem_flatMap.2 ⟨x,hx,hy⟩)
 ·intro hz y hy
  obtain ⟨x,hx,hy⟩:=List.mem_flatMap.1 hy
  rw [hz x hx,wM] at hy
  exact List.eq_of_mem_replicate hy
theorem ia (b:List UInt8):bp (eg b)=bp b:=by
 cases h:bp b with
 | true=>rw [CJ h];rfl
 | false=>rw [mF h];exact h
structure Std (pm:List dt)(o:Ob):Prop where
 ok:fB o.root=0/\o.root.Ok
 top:(o.root=ah/\(∀i,cJ o.ay i=ah)/\∀x∈o.index,x=ah) \/
  (o.root≠ah/\∃lv:List Pt,o.index=lv++[o.root]/\1<=lv.length/\lv.length<=4/\o.ay.length<=16*lv.length/\(∃e∈pm,e.x=o.root/\e.b=fS lv/\e.g=lv)/\(∀y∈lv,fB y=0/\y.Ok) /\
   ∀j,j<lv.length->(cJ lv j=ah/\∀i,i<16->cJ o.ay (16*j+i)=ah)\/(cJ lv j≠ah/\∃e∈pm,e.x=cJ lv j/\e.b=fS e.g/\1<=e.g.length/\e.g.length<=16/\(j+1<lv.length->e.g.length=16)/\(∀y∈e.g,fB y=0/\y.Ok)/\∀i,i<16->cJ e.g i=cJ o.ay (16*j+i)))
theorem Std.mono {pm j1:List dt}{o:Ob}(h:Std pm o)(hs:∀e∈pm,e.x∈o.index->e∈j1):Std j1 o:=by
 refine ⟨h.ok, ?_⟩
 rcases h.top with h | ⟨h1,lv,h2,h3,h4,h5,⟨e,he,e1,e2,e3⟩,h6,h7⟩
 ·exact .inl h
 ·refine .inr ⟨h1,lv,h2,h3,h4,h5,⟨e,hs e he (by rw [e1,h2];simp),e1,e2,e3⟩,h6,fun j hj => ?_⟩
  rcases h7 j hj with h | ⟨g1,e,he,g2,g3⟩
  ·exact .inl h
  ·refine .inr ⟨g1,e,hs e he ?_,g2,g3⟩
   rw [g2,h2]
   rcases lN (l:=lv) (i:=j) with c | c
   ·exact absurd c g1
   ·exact List.mem_append_left _ c
section
variable {pr:Bool}{n gt:Nat}{ls:List (Option Lv)}{P P':PS}{pm:List dt}
variable (hI:wC ls)(hn:324<=n/\n<=2048)(hw:1<=ls.length/\ls.length<=5)(hp:pr=true->3<=ls.length)(ic:1<=gt/\gt<=281474976710656)
include hI hn hw hp ic
theorem jZ.grow {bs:List (List UInt8)}{ps:List Pt}(h:jZ pr ls n gt P bs P' ps)(hs:QX pr n ls P pm)(hb:∀b∈bs,b.length<=1024)(gs:Nat->List Pt) :
  ∃nw,Grow pr n gt ls P pm P' nw/\(∀e∈nw,e.x∈ps)/\ps.length=bs.length/\(∀x∈ps,x=ah\/∃e∈nw,e.x=x)/\∀(i:Nat) (b:List UInt8),bs[i]? = some b->(cJ ps i=ah/\bp b=true)\/(cJ ps i≠ah/\bp b=false/\∃e∈nw,e.x=cJ ps i/\e.b=b/\e.g=gs i):=by
 induction h with
 | nil=>exact ⟨[],.rfl hs,(fun _ h=>by cases h),rfl,(fun _ h=>by cases h),(fun i b h=>by simp at h)⟩
 | @snoc bs P1 P2 ps b pt h1 h2 ih =>
  obtain ⟨nw,g1,g2,g3,g4,g5⟩:=ih fun b JC=>hb b (List.mem_append_left _ JC)
  have gA:∀(i:Nat) (b':List UInt8),(bs++[b])[i]? = some b'->(i<bs.length/\bs[i]? = some b')\/(i=ps.length/\b'=b):=fun i b' h=>by
   by_cases c:i<bs.length
   ·rw [List.getElem?_append_left c] at h;exact .inl ⟨c,h⟩
   ·rw [List.getElem?_append_right oZ] at h
    have:=(List.getElem?_eq_some_iff.1 h).1
    simp only [List.length_cons,List.length_nil] at this
    have e:i - bs.length=0:=by omega
    rw [e] at h
    simp at h
    exact .inr ⟨by omega,h.symm⟩
  rcases h2.grow hI hn hw hp ic g1.xj (hb b (by simp)) (gs ps.length) with ⟨k1,k2,rfl⟩ | ⟨k1,k2,k3⟩
  ·refine ⟨nw,g1,(fun e he=>List.mem_append_left _ (g2 e he)),by simp [g3],fun x hx => ?_,fun i b' h => ?_⟩
   ·rcases List.mem_append.1 hx with hx | hx
    ·exact g4 x hx
    ·rw [List.mem_singleton.1 hx];exact .inl k1
   ·rw [EF]
    rcases gA i b' h with ⟨c1,c2⟩ | ⟨rfl,rfl⟩
    ·rw [if_neg oZ];exact g5 i b' c2
    ·rw [if_pos rfl];exact .inl ⟨k1,k2⟩
  ·refine ⟨nw++[⟨pt,b,gs ps.length⟩],g1.trans k3,(fun e he=>(List.mem_append.1 he).elim (fun he=>List.mem_append_left _ (g2 e he)) fun he=>by rw [List.mem_singleton.1 he];simp),by simp [g3],fun x hx => ?_,fun i b' h => ?_⟩
   ·rcases List.mem_append.1 hx with hx | hx
    ·rcases g4 x hx with c | ⟨e,he,c⟩
     ·exact .inl c
     ·exact .inr ⟨e,List.mem_append_left _ he,c⟩
    ·rw [List.mem_singleton.1 hx];exact .inr ⟨_,List.mem_append_right _ (List.mem_singleton.2 rfl),rfl⟩
   ·rw [EF]
    rcases gA i b' h with ⟨c1,c2⟩ | ⟨rfl,rfl⟩
    ·rw [if_neg oZ]
     rcases g5 i b' c2 with c | ⟨c3,c4,e,he,c5⟩
     ·exact .inl c
     ·exact .inr ⟨c3,c4,e,List.mem_append_left _ he,c5⟩
    ·rw [if_pos rfl];exact .inr ⟨k1,k2,_,List.mem_append_right _ (List.mem_singleton.2 rfl),rfl,rfl,rfl⟩
theorem qu.grow {l idx:List Pt}{root:Pt}(h:qu pr ls n gt P P' l idx root)(hs:QX pr n ls P pm)(hl:l.length<=64)(xl:∀x∈l,fB x=0/\x.Ok)(o:Ob) :
  ∃nw,Grow pr n gt ls P pm P' nw/\(∀e∈nw,e.x∈idx)/\Std (pm++nw) { o with root:=root,ay:=l,index:=idx }/\idx.length<=5/\idx.length<=xk l.length/\∀x∈idx,x=ah\/∃e∈nw,e.x=x:=by
 have hz:=(iB pr hw hn).2
 rcases h with ⟨rfl,rfl,rfl,rfl⟩ | ⟨Km,level,P1,h1,h2,rfl⟩
 ·exact ⟨[],.rfl hs,(fun _ h=>by cases h),⟨⟨by simp [fB],dx⟩,.inl ⟨rfl,fun i=>iF (Nat.zero_le _),fun _ h=>by cases h⟩⟩,by simp,by simp,fun _ h=>by cases h⟩
 ·obtain ⟨nw,g1,g2,g3,g4,g5⟩:=jZ.grow hI hn hw hp ic h1 hs Ew fun j=>(l.drop (j*16)).take 16
  rw [rV] at g3
  have iM:1<=l.length:=List.length_pos_iff.2 Km
  have hnc:1<=cY l.length 16/\cY l.length 16<=4/\l.length<=16*cY l.length 16:=by unfold cY;omega
  have ek:∀j,j<cY l.length 16->16*j<l.length:=fun j hj=>by unfold cY at hj;omega
  have hov:xk l.length=cY l.length 16+1:=by unfold xk;rw [if_neg oZ]
  have Fp:∀j,j<cY l.length 16->(kI l)[j]? = some (eg (fS ((l.drop (j*16)).take 16))):=fun j hj=>by
   have hj2:j<(jt 16 l).length:=by rw [dA];exact hj
   rw [kI,List.getElem?_map,List.getElem?_eq_getElem hj2,lB];rfl
  have lV:∀j,∀x∈(l.drop (j*16)).take 16,fB x=0/\x.Ok:=fun j x hx=>xl x (List.mem_of_mem_drop (List.mem_of_mem_take hx))
  have qO:∀j i,i<16->cJ ((l.drop (j*16)).take 16) i=cJ l (16*j+i):=fun j i hi=>by
   unfold cJ
   rw [List.getElem?_take,if_pos hi,List.getElem?_drop,Nat.mul_comm j 16]
  have acf:∀y∈level,fB y=0/\y.Ok:=fun y hy=>by
   rcases g4 y hy with rfl | ⟨e,he,rfl⟩
   ·exact ⟨by simp [fB],dx⟩
   ·have:=g1.xj.po.Hu e (List.mem_append_right _ he)
    exact ⟨by unfold fB;split <;> first | rfl | rw [if_pos this.cu],this.ok⟩
  have hlz:∀j,j<level.length->cJ level j=ah->∀i,i<16->cJ l (16*j+i)=ah:=fun j hj h0 i hi=>by
   rcases g5 j _ (Fp j oZ) with ⟨-,c⟩ | ⟨c, -⟩
   ·rw [ia,wO (lV j)] at c
    rw [<-qO j i hi]
    rcases lN (l:=(l.drop (j*16)).take 16) (i:=i) with d | d
    ·exact d
    ·exact c _ d
   ·exact absurd h0 c
  have dr:(eg (fS level)).length<=1024:=by have:=mU (fS level);rw [ju] at this;omega
  rcases h2.grow hI hn hw hp ic g1.xj dr level with ⟨rfl,k2,rfl⟩ | ⟨k1,k2,k3⟩
  ·rw [ia,wO acf] at k2
   refine ⟨nw,g1,(fun e he=>List.mem_append_left _ (g2 e he)),⟨⟨by simp [fB],dx⟩,.inl ⟨rfl,fun i => ?_,fun x hx => ?_⟩⟩,by simp;omega,by simp;omega,fun x hx => ?_⟩
   ·by_cases c:i<l.length
    ·have hj:i / 16<level.length:=by omega
     have h0:cJ level (i / 16)=ah:=by
      rcases lN (l:=level) (i:=i / 16) with d | d
      ·exact d
      ·exact k2 _ d
     have:=hlz _ hj h0 (i % 16) (Nat.mod_lt _ oZ)
     rwa [show 16*(i / 16)+i % 16=i by omega] at this
    ·exact iF (by simp only;omega)
   ·rcases List.mem_append.1 hx with hx | hx
    ·exact k2 x hx
    ·exact List.mem_singleton.1 hx
   ·rcases List.mem_append.1 hx with hx | hx
    ·exact g4 x hx
    ·exact .inl (List.mem_singleton.1 hx)
  ·rw [ia] at k2
   rw [mF k2] at k3
   have R8:=k3.xj.po.Hu _ (List.mem_append_right _ (List.mem_singleton.2 rfl))
   refine ⟨nw++[⟨root,fS level,level⟩],g1.trans k3,(fun e he=>(List.mem_append.1 he).elim (fun he=>List.mem_append_left _ (g2 e he)) fun he=>by rw [List.mem_singleton.1 he];simp),⟨⟨by unfold fB;split <;> first | rfl | rw [if_pos R8.cu],R8.ok⟩,.inr ⟨k1,level,rfl,by omega,by omega,by simp only;omega,⟨_,List.mem_append_right _ (List.mem_append_right _ (List.mem_singleton.2 rfl)),rfl,rfl,rfl⟩,acf,fun j hj => ?_⟩⟩,by simp;omega,by simp;omega,fun x hx => ?_⟩
   ·rcases g5 j _ (Fp j oZ) with ⟨c, -⟩ | ⟨c,c2,e,he,c3,c4,c5⟩
    ·exact .inl ⟨c,hlz j hj c⟩
    ·rw [ia] at c2
     rw [mF c2] at c4
     refine .inr ⟨c,e,List.mem_append_right _ (List.mem_append_left _ he),c3,by rw [c4,c5], ?_, ?_,fun hj2 => ?_,by rw [c5];exact lV j,fun i hi=>by rw [c5];exact qO j i hi⟩
     ·rw [c5,List.length_take,List.length_drop];have:=ek j oZ;omega
     ·rw [c5,List.length_take];omega
     ·rw [c5,List.length_take,List.length_drop];have:=ek (j+1) oZ;omega
   ·rcases List.mem_append.1 hx with hx | hx
    ·rcases g4 x hx with c | ⟨e,he,c⟩
     ·exact .inl c
     ·exact .inr ⟨e,List.mem_append_left _ he,c⟩
    ·rw [List.mem_singleton.1 hx];exact .inr ⟨_,List.mem_append_right _ (List.mem_singleton.2 rfl),rfl⟩
end
def Hw (N:Nat):Nat:=16*cY N 16
structure db (pm:List dt)(N:Nat)(o:Ob):Prop where
 ptr:∀x∈o.ay,x=ah\/∃e∈pm,e.x=x
 fk:∀e∈o.fresh,0<=e.1/\e.1<N/\e.2.length<=1024
 fn:(o.fresh.map (·.1)).Nodup
 pl:o.ay.length<=Hw N
 pz:∀i,N<=i->cJ o.ay i=ah
 il:o.index.length<=5
 sz:N<=64
 rt:fB o.root=0/\o.root.Ok
 cl:o.clean=true->o.fresh=[]/\Std pm o/\o.index.length<=xk (Hw N)/\∀x∈o.index,x=ah\/∃e∈pm,e.x=x
theorem rX {N:Nat}(h:N<=64):Hw N<=64/\N<=Hw N:=by unfold Hw cY;omega
theorem db.jY {pm:List dt}{N:Nat}{o:Ob}(h:db pm N o):o.fresh.length<=N/\o.fresh.length<=64:=by
 have h1:(o.fresh.map (·.1)).length<=((List.range N).map fun (i:Nat)=>(i:Int)).length:=by
  refine fx h.fn fun k hk => ?_
  obtain ⟨e,he,rfl⟩:=List.mem_map.1 hk
  have:=h.fk e he
  exact List.mem_map.2 ⟨e.1.toNat,by simp;omega,by omega⟩
 simp only [List.length_map,List.length_range] at h1
 have:=rX h.sz
 omega
theorem Jl {pr:Bool}{w n:Nat}{R:Rk}{pm:List dt}(fZ:dU pr w n R pm){x:Pt}(h:x=ah\/∃e∈pm,e.x=x):fB x=0/\x.Ok:=by
 rcases h with rfl | ⟨e,he,rfl⟩
 ·exact ⟨by simp [fB],dx⟩
 ·have:=fZ.Hu e he
  exact ⟨by unfold fB;split <;> first | rfl | rw [if_pos this.cu],this.ok⟩
theorem db.aak {pr:Bool}{w n N:Nat}{R:Rk}{pm:List dt}{o:Ob}(h:db pm N o)(fZ:dU pr w n R pm):LD (Hw N) o:=by
 have h1:=rX h.sz
 exact ⟨fun e he=>by have:=h.fk e he;omega,h.jY.2,h.pl,fun x hx=>Jl fZ (h.ptr x hx),h.il,h.rt⟩
structure tg (pm nw:List dt)(N:Nat)(o o':Ob):Prop where
 used:o'.used=o.used
 size:o'.size=o.size
 clean:o'.clean=true
 dg:∀i:Nat,aH o.fresh (i:Int)=none->cJ o'.ay i=cJ o.ay i
 put:∀(i:Nat) (b:List UInt8),aH o.fresh (i:Int)=some b->(cJ o'.ay i=ah/\bp b=true)\/(cJ o'.ay i≠ah/\bp b=false/\∃e∈nw,e.x=cJ o'.ay i/\e.b=b)
 Sm:db (pm++nw) N o'
theorem Std.app {pm nw:List dt}{o:Ob}(h:Std pm o):Std (pm++nw) o:=h.mono fun _ he _=>List.mem_append_left _ he
theorem db.app {pm nw:List dt}{N:Nat}{o:Ob}(h:db pm N o):db (pm++nw) N o:=by
 have hm:∀x:Pt,(x=ah\/∃e∈pm,e.x=x)->x=ah\/∃e∈pm++nw,e.x=x:=fun x c=>by
  rcases c with c | ⟨e,he,c⟩
  ·exact .inl c
  ·exact .inr ⟨e,List.mem_append_left _ he,c⟩
 exact ⟨fun x hx=>hm x (h.ptr x hx),h.fk,h.fn,h.pl,h.pz,h.il,h.sz,h.rt,fun c=>⟨(h.cl c).1,(h.cl c).2.1.app,(h.cl c).2.2.1,fun x hx=>hm x ((h.cl c).2.2.2 x hx)⟩⟩
theorem tg.app {pm n1 n2:List dt}{N:Nat}{o o':Ob}(h:tg pm n1 N o o'):tg pm (n1++n2) N o o':=by
 refine ⟨h.used,h.size,h.clean,h.dg,fun i b hb => ?_,by rw [<-List.append_assoc];exact h.Sm.app⟩
 rcases h.put i b hb with c | ⟨c1,c2,e,he,c3⟩
 ·exact .inl c
 ·exact .inr ⟨c1,c2,e,List.mem_append_left _ he,c3⟩
theorem tg.pre {pm n1 n2:List dt}{N:Nat}{o o':Ob}(h:tg (pm++n1) n2 N o o'):tg pm (n1++n2) N o o':=by
 refine ⟨h.used,h.size,h.clean,h.dg,fun i b hb => ?_,by rw [<-List.append_assoc];exact h.Sm⟩
 rcases h.put i b hb with c | ⟨c1,c2,e,he,c3⟩
 ·exact .inl c
 ·exact .inr ⟨c1,c2,e,List.mem_append_right _ he,c3⟩
section
variable {pr:Bool}{n gt:Nat}{ls:List (Option Lv)}{P P':PS}{pm:List dt}
variable (hI:wC ls)(hn:324<=n/\n<=2048)(hw:1<=ls.length/\ls.length<=5)(hp:pr=true->3<=ls.length)(ic:1<=gt/\gt<=281474976710656)
include hI hn hw hp ic
theorem MI.grow {fresh:List (Int×List UInt8)}{l0 l1:List Pt}{ks:List Int}(h:MI pr ls n gt fresh P l0 ks P' l1)(hs:QX pr n ls P pm)(hf:∀e∈fresh,0<=e.1/\e.2.length<=1024)(Fv:ks.Nodup) :
  ∃nw,Grow pr n gt ls P pm P' nw/\(∀e∈nw,∃k∈ks,e.x=cJ l1 k.toNat)/\(∀i:Nat,(i:Int)∉ks->cJ l1 i=cJ l0 i)/\(∀k∈ks,∃b,aH fresh k=some b/\((cJ l1 k.toNat=ah/\bp b=true)\/(cJ l1 k.toNat≠ah/\bp b=false/\∃e∈nw,e.x=cJ l1 k.toNat/\e.b=b)))/\∀x∈l1,x=ah\/x∈l0\/∃e∈nw,e.x=x:=by
 induction h with
 | nil=>exact ⟨[],.rfl hs,(fun _ h=>by cases h),(fun _ _=>rfl),(fun _ h=>by cases h),(fun x hx=>.inr (.inl hx))⟩
 | @snoc ks P1 P2 l1 k b pt h1 h2 h3 ih =>
  rw [List.nodup_append] at Fv
  obtain ⟨nw,g1,g0,g2,g3,g4⟩:=ih Fv.1
  have hb:=hf _ (aI h2)
  have Dy:(k.toNat:Int)=k:=by have:=hb.1;simp only at this;omega
  have hlen:k.toNat<(oR l1 k.toNat).length:=by rw [Ex];omega
  have td:∀i,cJ ((oR l1 k.toNat).set k.toNat pt) i=if i=k.toNat then pt else cJ l1 i:=fun i=>by rw [U9 _ _ hlen,U8]
  have q9:∀x∈(oR l1 k.toNat).set k.toNat pt,x=pt\/x=ah\/x∈l1:=fun x hx=>by
   rcases List.mem_or_eq_of_mem_set hx with hx | rfl
   ·rcases List.mem_append.1 hx with hx | hx
    ·exact .inr (.inr hx)
    ·exact .inr (.inl (List.eq_of_mem_replicate hx))
   ·exact .inl rfl
  have Sc:∀k'∈ks,k'≠k->k'.toNat≠k.toNat:=fun k' rG eL e=>by
   obtain ⟨b',JC, -⟩:=g3 k' rG
   have:=(hf _ (aI JC)).1
   simp only at this
   omega
  rcases h3.grow hI hn hw hp ic g1.xj hb.2 [] with ⟨rfl,k2,rfl⟩ | ⟨k1,k2,k3⟩
  ·refine ⟨nw,g1,fun e he => ?_,fun i hi => ?_,fun k' rG => ?_,fun x hx => ?_⟩
   ·obtain ⟨k',c1,c2⟩:=g0 e he
    refine ⟨k',List.mem_append_left _ c1, ?_⟩
    rw [td,if_neg (Sc k' c1 (Fv.2.2 k' c1 k (List.mem_singleton.2 rfl)))];exact c2
   ·rw [List.mem_append,not_or] at hi
    rw [td,if_neg (by have:=hi.2;simp only [List.mem_singleton] at this;omega)]
    exact g2 i hi.1
   ·by_cases c:k'=k
    ·subst c
     exact ⟨b,h2,.inl ⟨by rw [td,if_pos rfl],k2⟩⟩
    ·have rG:=(List.mem_append.1 rG).resolve_right (fun h=>c (List.mem_singleton.1 h))
     obtain ⟨b',c1,c2⟩:=g3 k' rG
     refine ⟨b',c1, ?_⟩
     rw [td,if_neg (Sc k' rG c)];exact c2
   ·rcases q9 x hx with rfl | rfl | hx
    ·exact .inl rfl
    ·exact .inl rfl
    ·exact g4 x hx
  ·refine ⟨nw++[⟨pt,b,[]⟩],g1.trans k3,fun e he => ?_,fun i hi => ?_,fun k' rG => ?_,fun x hx => ?_⟩
   ·rcases List.mem_append.1 he with he | he
    ·obtain ⟨k',c1,c2⟩:=g0 e he
     refine ⟨k',List.mem_append_left _ c1, ?_⟩
     rw [td,if_neg (Sc k' c1 (Fv.2.2 k' c1 k (List.mem_singleton.2 rfl)))];exact c2
    ·rw [List.mem_singleton.1 he]
     exact ⟨k,by simp,by rw [td,if_pos rfl]⟩
   ·rw [List.mem_append,not_or] at hi
    rw [td,if_neg (by have:=hi.2;simp only [List.mem_singleton] at this;omega)]
    exact g2 i hi.1
   ·by_cases c:k'=k
    ·subst c
     refine ⟨b,h2,.inr ⟨by rw [td,if_pos rfl];exact k1,k2,⟨pt,b,[]⟩,by simp,by rw [td,if_pos rfl],rfl⟩⟩
    ·have rG:=(List.mem_append.1 rG).resolve_right (fun h=>c (List.mem_singleton.1 h))
     obtain ⟨b',c1,c2⟩:=g3 k' rG
     refine ⟨b',c1, ?_⟩
     rw [td,if_neg (Sc k' rG c)]
     rcases c2 with c2 | ⟨c2,c3,e,he,c4⟩
     ·exact .inl c2
     ·exact .inr ⟨c2,c3,e,List.mem_append_left _ he,c4⟩
   ·rcases q9 x hx with rfl | rfl | hx
    ·exact .inr (.inr ⟨⟨x,b,[]⟩,by simp,rfl⟩)
    ·exact .inl rfl
    ·rcases g4 x hx with c | c | ⟨e,he,c⟩
     ·exact .inl c
     ·exact .inr (.inl c)
     ·exact .inr (.inr ⟨e,List.mem_append_left _ he,c⟩)
theorem wF.grow {N:Nat}{o o':Ob}(h:wF pr ls n gt P o P' o')(hs:QX pr n ls P pm)(ho:db pm N o):∃nw,Grow pr n gt ls P pm P' nw/\(∀e∈nw,e.x∈o'.ay\/e.x∈o'.index)/\tg pm nw N o o':=by
 have hz:=(iB pr hw hn).2
 have ZX:=rX ho.sz
 have Lo:=ho.aak hs.po
 have QY:=h.Sh hz ic ZX.1 Lo
 obtain ⟨ks,P1,l1,idx,root,hp1, -,h1,h2,rfl⟩:=h
 have FC:∀k,k∈ks↔k∈o.fresh.map (·.1):=fun k=>hp1.mem_iff
 obtain ⟨n1,g1,g0,g2,g3,g4⟩:=MI.grow hI hn hw hp ic h1 hs (fun e he=>⟨(ho.fk e he).1,(ho.fk e he).2.2⟩) (hp1.nodup_iff.2 ho.fn)
 have QA:∀x∈l1,x=ah\/∃e∈pm++n1,e.x=x:=fun x hx=>by
  rcases g4 x hx with c | c | ⟨e,he,c⟩
  ·exact .inl c
  ·rcases ho.ptr x c with c | ⟨e,he,c⟩
   ·exact .inl c
   ·exact .inr ⟨e,List.mem_append_left _ he,c⟩
  ·exact .inr ⟨e,List.mem_append_right _ he,c⟩
 simp only at QY
 have aeX:l1.length<=64:=by have:=QY.1;omega
 obtain ⟨n2,k1,k2,k3,k4,k5,k6⟩:=qu.grow hI hn hw hp ic h2 g1.xj aeX (fun x hx=>Jl g1.xj.po (QA x hx)) { o with fresh:=[],clean:=true }
 have acg:∀i:Nat,aH o.fresh (i:Int)=none->(i:Int)∉ks:=fun i hi hk=>qc hi ((FC _).1 hk)
 have ach:∀(i:Nat) (b:List UInt8),aH o.fresh (i:Int)=some b->(i:Int)∈ks:=fun i b hb=>(FC _).2 (List.mem_map.2 ⟨_,aI hb,rfl⟩)
 have aeY:∀x:Pt,(∃e∈pm++n1,e.x=x)->∃e∈pm++(n1++n2),e.x=x:=fun x ⟨e,he,c⟩=>⟨e,by rw [<-List.append_assoc];exact List.mem_append_left _ he,c⟩
 refine ⟨n1++n2,g1.trans k1,fun e he => ?_,⟨rfl,rfl,rfl,fun i hi=>g2 i (acg i hi),fun i b hb => ?_, ?_⟩⟩
 ·rcases List.mem_append.1 he with he | he
  ·left
   obtain ⟨k, -,c⟩:=g0 e he
   rcases lN (l:=l1) (i:=k.toNat) with d | d
   ·have:=(g1.xj.po.Hu e (List.mem_append_right _ he)).cu
    rw [c,d] at this
    exact absurd this.2.2.2.2.1 (by simp [ah])
   ·rw [c];exact d
  ·exact .inr (k2 e he)
 ·obtain ⟨b',c1,c2⟩:=g3 _ (ach i b hb)
  rw [hb] at c1
  cases c1
  simp only [Int.toNat_natCast] at c2
  rcases c2 with c2 | ⟨c2,c3,e,he,c4⟩
  ·exact .inl c2
  ·exact .inr ⟨c2,c3,e,List.mem_append_left _ he,c4⟩
 ·refine ⟨fun x hx=>(QA x hx).imp id (aeY x),(fun _ h=>by cases h),List.nodup_nil,QY.1,fun i hi => ?_,k4,ho.sz,QY.2.2.2.1,fun _=>⟨rfl,by rw [<-List.append_assoc];exact k3,Nat.le_trans k5 (Qx QY.1),fun x hx => ?_⟩⟩
  ·have jh:N<=i:=hi
   have xv:(i:Int)∉ks:=fun hk=>by
    obtain ⟨e,he,e2⟩:=List.mem_map.1 ((FC _).1 hk)
    have:=ho.fk e he
    omega
   show cJ l1 i=ah
   rw [g2 i xv];exact ho.pz i jh
  ·rcases k6 x hx with c | ⟨e,he,c⟩
   ·exact .inl c
   ·exact .inr ⟨e,List.mem_append_right _ (List.mem_append_right _ he),c⟩
theorem sM.grow {N:Nat}{o o':Ob}(h:sM pr ls n gt P o P' o')(hs:QX pr n ls P pm)(ho:db pm N o):∃nw,Grow pr n gt ls P pm P' nw/\(∀e∈nw,e.x∈o'.ay\/e.x∈o'.index)/\tg pm nw N o o':=by
 rcases h with ⟨hc,rfl,rfl⟩ | ⟨-,h⟩
 ·refine ⟨[],.rfl hs,(fun _ h=>by cases h),⟨rfl,rfl,hc,fun _ _=>rfl,fun i b hb => ?_,by rw [List.append_nil];exact ho⟩⟩
  rw [(ho.cl hc).1] at hb
  cases hb
 ·exact h.grow hI hn hw hp ic hs ho
theorem lT.grow {all os:List (Int×Ob)}{ks:List Int}{ds:List (Int×List Pt)}(h:lT pr ls n gt all P ks P' os ds)(hs:QX pr n ls P pm)(hall:∀k o,aH all k=some o->db pm (cY o.size 1024) o)(Dy:ks.Nodup) :
  ∃nw,Grow pr n gt ls P pm P' nw/\(∀k∈ks,∃o o',aH all k=some o/\aH os k=some o'/\tg pm nw (cY o.size 1024) o o')/\(∀e∈nw,∃k∈ks,∃o',aH os k=some o'/\(e.x∈o'.ay\/e.x∈o'.index))/\ds=os.map fun e=>(e.1,ej e.2):=by
 induction h with
 | nil=>exact ⟨[],.rfl hs,(fun _ h=>by cases h),(fun _ h=>by cases h),rfl⟩
 | @snoc ks P1 P2 os ds k o o' h1 h2 h3 ih =>
  rw [List.nodup_append] at Dy
  obtain ⟨nw,g1,g2,g4,g3⟩:=ih Dy.1
  obtain ⟨n2,k1,k0,k2⟩:=h3.grow hI hn hw hp ic g1.xj (hall k o h2).app
  have hk:=h1.keys
  have xv:k∉os.map (·.1):=fun h=>by
   rw [hk.1] at h
   exact Dy.2.2 k h k (List.mem_singleton.2 rfl) rfl
  have gN:∀k'∈ks,aH (os++[(k,o')]) k'=aH os k':=fun k' rG=>by rw [kY xv,if_neg (fun e=>Dy.2.2 k' rG k (List.mem_singleton.2 rfl) e)]
  refine ⟨nw++n2,g1.trans k1,fun k' rG => ?_,fun e he => ?_,by rw [g3,List.map_append];rfl⟩
  rotate_left
  ·rcases List.mem_append.1 he with he | he
   ·obtain ⟨k',c1,p',c2,c3⟩:=g4 e he
    exact ⟨k',List.mem_append_left _ c1,p',by rw [gN k' c1];exact c2,c3⟩
   ·exact ⟨k,by simp,o',by rw [kY xv,if_pos rfl],k0 e he⟩
  rcases List.mem_append.1 rG with rG | rG
  ·obtain ⟨p,p',c1,c2,c3⟩:=g2 k' rG
   refine ⟨p,p',c1, ?_,c3.app⟩
   rw [kY xv,if_neg (fun e=>Dy.2.2 k' rG k (List.mem_singleton.2 rfl) e)]
   exact c2
  ·rw [List.mem_singleton.1 rG]
   exact ⟨o,o',h2,by rw [kY xv,if_pos rfl],k2.pre⟩
end
end Go.Sl
