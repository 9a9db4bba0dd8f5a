/-
  Texts put together (11).
-/
import Derived.Test.YteldablklnfblaaGreatDoorZTopTwice10
namespace Go.Sl
def fK:eG:=List.replicate 128 0
def Rk.add (R:Rk)(n:Nat):Rk:={ R with ds:=R.ds++[⟨List.replicate n fK,List.replicate n fK,false⟩] }
theorem WW (n:Nat):(List.replicate n fK).flatten=List.replicate (n*128) 0:=by
 induction n with
 | zero=>rfl
 | succ n ih=>rw [List.replicate_succ,List.flatten_cons,ih,fK,List.replicate_append_replicate];congr 1;omega
def Dk.back (d:Dk):Dk:={ d with now:=d.fo }
def Rk.xi (R:Rk):Rk:=⟨R.ds.map Dk.back,[],none,false⟩
theorem Rk.Ok.add {R:Rk}(h:R.Ok){n:Nat}(hn:n<=8192):(R.add n).Ok:=by
 have hz:∀s∈List.replicate n fK,s.length=128:=fun s hs=>by rw [(List.mem_replicate.1 hs).2];rfl
 refine ⟨fun x hx => ?_,fun x hx => ?_,fun w hw => ?_⟩
 ·rcases List.mem_append.1 hx with hx | hx
  ·exact h.len x hx
  ·obtain rfl:=List.mem_singleton.1 hx;simp;exact hn
 ·rcases List.mem_append.1 hx with hx | hx
  ·exact h.sec x hx
  ·obtain rfl:=List.mem_singleton.1 hx;exact ⟨hz,hz⟩
 ·have h1:=h.ws w hw
  refine ⟨?_,h1.2⟩
  have:(R.add n).size w.d=R.size w.d:=by
   unfold Rk.size Rk.add at *
   rcases Nat.lt_or_ge w.d R.ds.length with c | c
   ·rw [List.getElem?_append_left c]
   ·simp [c] at h1
  rw [this];exact h1.1
theorem Rk.Ok.xi {R:Rk}(h:R.Ok):R.xi.Ok:=by
 refine ⟨fun x hx => ?_,fun x hx => ?_,fun w hw=>by cases hw⟩
 ·obtain ⟨y,hy,rfl⟩:=List.mem_map.1 hx
  have:=h.len y hy;exact ⟨rfl,by simp only [Dk.back];omega⟩
 ·obtain ⟨y,hy,rfl⟩:=List.mem_map.1 hx
  exact ⟨(h.sec y hy).1,(h.sec y hy).1⟩
end Go.Sl
namespace Go.Proofs.YteldablklnfblaaGreatDoor
open Go.Sl
set_option maxRecDepth 10000
theorem GU:Ct 9 [] [] fun u Bs=>∃p C,u=ptr p/\bq p [] ⟨[],[],none,false⟩ C/\Bs=[C]:=by
 refine st Tryz.func9 fun w0 => ?_
 refine ga ?_;intro p
 refine gz ?_
 exact fin ⟨p,[(p,Mm (.slice none 0 0) none false 0 (.slice none 0 0))],rfl,⟨[],.slice none 0 0,.slice none 0 0,[],[],0,rfl,by simp,rfl,⟨by simp,by simp,by simp⟩,(fun n hn=>by cases hn),az.nil _ _,az.nil _ _,rfl⟩,rfl⟩ aa
theorem Zm (qs:List Nat)(q:Nat){ws:List Wt}(h:∀w∈ws,w.d<qs.length):wl (qs++[q]) ws=wl qs ws:=by
 induction ws with
 | nil=>rfl
 | cons w l ih =>
  have h1:=h w (List.mem_cons_self ..)
  have h2:=ih fun t ht=>h t (List.mem_cons_of_mem _ ht)
  simp only [wl,List.flatMap_cons] at h2 ⊢
  rw [h2]
  congr 1
  simp [Wt.lay,List.getD,List.getElem?_append_left h1]
theorem Pw (p:Nat):∀ {xs:List Dq} {ds:List Dk} {x:Dq},xs.length=ds.length->x∈xs->x.q∈(rD p xs ds).map (·.1)
 | y :: xs,d :: ds,x,h,hx=>by
  rcases List.mem_cons.1 hx with rfl | hx
  ·exact List.mem_cons_self ..
  ·have:=Pw p (xs:=xs) (ds:=ds) (by simpa using h) hx
   simp only [rD,TE];simp only [List.map_append,List.mem_append];exact .inr (.inr (.inr this))
theorem Zn (p:Nat)(qs:List Nat)(R:Rk)(C:Chunk)(hC:bq p qs R C)(n:Nat)(hn:1<=n/\n<=8192)(Au:qs.length<=1000):Ct 10 [ptr p,.int .i64 n] [C] fun u Bs=>∃q C',u = .tuple #[ptr q,.int .i64 0]/\bq p (qs++[q]) (R.add n) C'/\Bs=[C']:=by
 obtain ⟨xs,vw,vd,Cw,Cd,z,hx,ek,hl,aQ,hlf,hw,hd,rfl⟩:=hC
 have hd':=hd
 obtain ⟨Mq,dE⟩:=hn
 refine st Tryz.func10 fun w0 => ?_
 refine gs ?_
 have hz:ak (List.replicate n fK).flatten=List.replicate (n*128) (.int .u8 0):=by rw [WW];simp [ak]
 have j9:∀w∈R.ws,w.d<qs.length:=fun w hw=>by
  have h1:=(aQ.ws w hw).1
  rcases Nat.lt_or_ge w.d R.ds.length with h2 | h2
  ·rw [<-hx,List.length_map,hl];exact h2
  ·simp [Rk.size,h2] at h1
 have key:∀(q g1 g2:Nat) (v2:Value) (C2:Chunk),q∉(rD p xs R.ds).map (·.1)->az C2 46 1 v2 (qs.length+1) (qs.map ptr++[ptr q])->bq p (qs++[q]) (R.add n) ([(p,Mm vw R.left R.off z v2)]++(Cw++(C2++(rD p xs R.ds++([(q,dkO p g1 g2 n false)]++([(g1,ax (List.replicate (n*128) (.int .u8 0)) 5)]++[(g2,ax (List.replicate (n*128) (.int .u8 0)) 5)])))))):=fun q g1 g2 v2 C2 hq Cu=>by
  refine ⟨xs++[⟨q,g1,g2⟩],vw,v2,Cw,C2,z,by simp [hx], ?_,by simp [Rk.add,hl],aQ.add dE,hlf,by show az _ _ _ _ R.ws.length (wl _ R.ws);rw [Zm qs q j9];exact hw,by simpa using Cu, ?_⟩
  ·rw [List.nodup_append]
   refine ⟨ek,by simp,fun a ha b hb => ?_⟩
   obtain rfl:=List.mem_singleton.1 hb
   rintro rfl
   rw [<-hx] at ha
   obtain ⟨x,CQ,rfl⟩:=List.mem_map.1 ha
   exact hq (Pw p hl CQ)
  ·simp only [Rk.add]
   rw [tD p _ _ hl]
   simp [rD,hz]
 refine gdo (aA.cons (0,0) (aA.cons (1,0) (aA.cons (2,0) (aA.cons (4,0) (aA.cons (5,0) (aA.fork 3 (aA.y7 [(6,1),(7,0),(8,3),(9,2)]) 6 (aA.y7 [(3,1),(7,0),(8,3),(9,2)]))))))) ?_
 refine gk ?_ ?_
 all_goals
  refine gm ?_;intro g1
  refine gm ?_;intro g2
  refine ga ?_;intro q
  refine gm ?_;intro b1
  refine gp ?_;intro ad2 c2 C2 Cu
  refine WO.nodup fun eD => ?_
  have hq:q∉(rD p xs R.ds).map (·.1):=JX eD (A:=[(q,_)]) (B:=rD p xs R.ds) Ie q (List.mem_cons_self ..)
  refine gz ?_
  exact fin ⟨q,_,rfl,key q _ _ _ C2 hq Cu,rfl⟩ aa
theorem Zo (p:Nat)(qs:List Nat)(R:Rk)(C:Chunk)(hC:bq p qs R C)(Au:qs.length<=1000)(Gb:R.ws.length<=900000000000):Ct 41 [ptr p,.slice none 0 0] [C] fun _ Bs=>∃C',bq p qs R.xi C'/\Bs=[C']:=by
 obtain ⟨xs,vw,vd,Cw,Cd,z,hx,hn,hl,aQ,hlf,hw,hd,rfl⟩:=hC
 have hwR:=hw.rd
 have hdR:=hd.rd
 have afT:qs.length=R.ds.length:=by rw [<-hx,List.length_map,hl]
 obtain ⟨ad,c,rfl⟩:=hw.slice
 obtain ⟨ba,c',rfl⟩:=hd.slice
 refine st Tryz.func41 fun w0 => ?_
 refine gs ?_
 refine gl [0,1,11,12] (fun i:Nat=>[(13,.int .i64 i)]) (fun _=>[]) (fun i=>i<=R.ws.length) (fun i=>R.ws.length - i) 0 (Nat.zero_le _) ?_
 intro j hj
 refine gi ?_ ?_ <;> intro bo
 ·obtain ⟨w,YR⟩:=eB (show j<R.ws.length by omega)
  have OB:=List.mem_of_getElem? YR
  have OA:∀w∈R.ws,w.b.length=128:=fun w hw=>(aQ.ws w hw).2
  have iY:=Oz qs OA YR
  have pR:=Wt.aj qs (OA w OB)
  have fG:=Wt.bC qs w
  obtain ⟨g,off,rfl⟩:=hwR.addr oZ
  refine ga ?_;intro b6
  refine gn ?_
  exact ⟨j+1,by omega,by omega,aq,_,aa⟩
 ·refine gl [0,54,55] (fun i:Nat=>[(56,.int .i64 i)]) (fun i=>[rD p xs ((R.ds.take i).map Dk.back++R.ds.drop i)]) (fun i=>i<=R.ds.length) (fun i=>R.ds.length - i) 0 (Nat.zero_le _) ?_
  intro i hi
  refine gi ?_ ?_ <;> intro bo
  ·have jh:i<R.ds.length:=by omega
   obtain ⟨d,hd1⟩:=eB jh
   have hdm:=List.mem_of_getElem? hd1
   have s7:=aQ.len d hdm
   have Br:=aQ.sec d hdm
   have e1:=fU Br.1
   have e2:=fU Br.2
   obtain ⟨x,CQ⟩:=eB (l:=xs) (i:=i) oZ
   have hqi:(qs.map ptr)[i]? = some (ptr x.q):=by rw [<-hx];simp [CQ]
   obtain ⟨_,hde⟩:=List.getElem?_eq_some_iff.1 hd1
   obtain ⟨u7,ym⟩:=List.getElem?_eq_some_iff.1 CQ
   have Pr:∀(A:List Dk) (d':Dk),A.length=i->rD p xs (A++d' :: R.ds.drop (i+1))=rD p (xs.take i) A++TE p x.q x.g1 x.g2 d' (rD p (xs.drop (i+1)) (R.ds.drop (i+1))):=fun A d' hA=>by
    conv=>lhs;rw [show xs=xs.take i++x :: xs.drop (i+1) by rw [<-ym,<-List.drop_eq_getElem_cons,List.take_append_drop]]
    rw [tD p _ _ (by simp;omega)];rfl
   have h1:(R.ds.take i).map Dk.back++R.ds.drop i=(R.ds.take i).map Dk.back++d :: R.ds.drop (i+1):=by rw [<-hde,<-List.drop_eq_getElem_cons]
   have h2:(R.ds.take (i+1)).map Dk.back++R.ds.drop (i+1)=(R.ds.take i).map Dk.back++d.back :: R.ds.drop (i+1):=by rw [List.take_succ_eq_append_getElem jh,List.map_append,hde];simp
   have hR:Rd [(x.g1,bO d.fo)] 1 (.slice (some ⟨x.g1,0,none⟩) (d.now.length*128) (d.now.length*128)) (d.now.length*128) (ak d.fo.flatten):=av (by rw [ai,e1];omega) (aK _) oZ _
   have zV:(ak d.now.flatten).take 0++(ak d.fo.flatten).take (min (d.now.length*128) (d.now.length*128))++(ak d.now.flatten).drop (0+min (d.now.length*128) (d.now.length*128))=ak d.fo.flatten:=by
    rw [Gp (by rw [ai,e2]) (Nat.le_refl _),List.take_of_length_le (by rw [ai,e1];omega)]
   rw [h1,Pr _ d (by simp;omega)]
   obtain ⟨g,off,rfl⟩:=hdR.addr oZ
   refine gs ?_
   refine gy ?_
   refine gn ?_
   refine ⟨i+1,by omega,by omega,aq, ?_⟩
   have hdb:TE p x.q x.g1 x.g2 d.back (rD p (xs.drop (i+1)) (R.ds.drop (i+1)))=[(x.q,dkO p x.g1 x.g2 d.now.length d.dead)]++([(x.g1,bO d.fo)]++([(x.g2,bO d.fo)]++rD p (xs.drop (i+1)) (R.ds.drop (i+1)))):=by rw [<-s7.1];rfl
   rw [h2,Pr _ d.back (by simp;omega),hdb]
   exact ⟨_,aa⟩
  ·obtain rfl:i=R.ds.length:=by omega
   rw [List.take_length,List.drop_length,List.append_nil]
   refine gz ?_
   exact fin ⟨[(p,Mm (.slice none 0 0) none false z (.slice ba qs.length c'))]++([]++(Cd++rD p xs (R.ds.map Dk.back))),⟨xs,.slice none 0 0,_,[],Cd,z,hx,hn,by simp [Rk.xi,hl],aQ.xi,(fun n hn=>by cases hn),az.nil _ _,hd,rfl⟩,rfl⟩ aa
end Go.Proofs.YteldablklnfblaaGreatDoor
namespace Go.Sl
def gC (n i:Nat)(s:eG):Nat->List Ev
 | 0=>fT i 0 (List.replicate 274 fK)
 | 1=>fT i (n - 18) (List.replicate 18 fK)
 | 2=>fT i (fC n 0) [s]
 | 3=>fT i (fC n 1) [s]
 | 4=>fT i (fC n 2) [s]
 | 5=>fT i (fC n 3) [s]
 | _=>[.f i]
def Rk.on (R:Rk):Prop:=R.left=none/\R.off=false
theorem Rk.on.ev {R:Rk}(h:R.on)(e:Ev):(R.ev e).on:=by
 obtain ⟨h1,h2⟩:=h
 cases e <;> simp [Rk.ev,h1,h2,Rk.on,Rk.put]
theorem Rk.on.run {R:Rk}(h:R.on)(l:List Ev):(R.run l).on:=by
 induction l generalizing R with
 | nil=>exact h
 | cons e l ih=>exact ih (h.ev e)
theorem WX (m:Nat):ak (List.replicate m fK).flatten=List.replicate (m*128) (.int .u8 0):=by rw [WW];simp [ak]
theorem Zp (R:Rk)(n i:Nat)(s:eG){k:Nat}(h:k<=7):(R.run (upto (gC n i s) k)).ws.length<=R.ws.length+2000:=by
 have h1:=Rk.iL R (upto (gC n i s) k)
 have h2:=cV (f:=gC n i s) (c:=274) (fun k=>by unfold gC;split <;> simp only [fu,List.length_replicate,List.length_cons,List.length_nil] <;> omega) k
 omega
end Go.Sl
namespace Go.Proofs.YteldablklnfblaaGreatDoor
open Go.Sl
set_option maxRecDepth 10000
set_option maxHeartbeats 2000000
def bxr (n:Nat):List Nat->Chunk
 | []=>[]
 | b :: l=>[(b,ax [.int .i64 (fC n l.length)] 3)]++bxr n l
abbrev fF (b2 b6 b:Nat):Value:=.func (.func 84) #[] #[ptr b2,ptr b,ptr b6]
def xj (b2 b6:Nat)(l:List Nat):List Value:=[.func (.func 80) #[] #[ptr b2],.func (.func 82) #[] #[ptr b2]]++l.reverse.map (fF b2 b6)
theorem KS (T:TypeId)(fr:Nat×Nat)(p:Nat)(qs:List Nat)(R:Rk)(C:Chunk)(hC:bq p qs R C)(i q n:Nat)(hq:qs[i]? = some q)(hl:R.live i)(bZ:R.on)(hn:R.size i=n)(h:324<=n/\n<=8192)
  (l:eU) (he:uX l=0) (hk:l.Ok) (hs:∀t,l.aJ[l.top.toNat]? = some t->t.bz=n) (ad:Option Addr) (c:Nat) (O:Chunk) (hO:az O 23 3 (.slice ad l.aJ.length c) l.aJ.length (l.aJ.flatMap Tp.lay)) (hw:R.ws.length<=800000000000) :
  Ct 33 [ptr q,mE l (.slice ad l.aJ.length c)] [gK T fr,C,O] fun u Bs=>∃a L C',u = .tuple #[ptr a,.int .i64 0]/\OD a q l L/\bq p qs (R.run (upto (gC n i (whole (dL l))) 7)) C'/\Bs=[L,gK T fr,C',O]:=by
 obtain ⟨hh,Bp⟩:=(ib l).1 he
 obtain ⟨m1,m2,m3,m4,m5,m6⟩:=hh
 obtain ⟨tn,Y7⟩:∃k:Nat,l.top=k:=⟨l.top.toNat,by omega⟩
 have Kg:tn<l.aJ.length:=by omega
 have hts:=hs _ (by rw [Y7,Int.toNat_natCast];exact List.getElem?_eq_getElem Kg)
 have hx:=ar Tp.aj l.aJ tn _ (List.getElem?_eq_getElem Kg) 2 _ rfl
 rw [hts] at hx
 have fH:(whole (dL l)).length=128:=fQ (by rw [jo];omega)
 obtain ⟨go_,oo,rfl⟩:=hO.rd.addr oZ
 have hOr:=hO.rd
 have hE:=Gh T fr O _ l _ rfl hOr hk he
 simp only [mE,Y7] at hE ⊢
 refine st Tryz.func33 fun w0 => ?_
 refine ga ?_;intro b2
 refine ga ?_;intro b3
 refine gc hE ?_
 rintro _ _ ⟨g,rfl,rfl⟩
 refine ga ?_;intro b6
 refine gd [0,4,8,12,16,20,24,28,33,36] ?_
 refine gc (cQ p qs R C hC i q hq) ?_
 rintro _ _ ⟨rfl,rfl⟩
 rw [hn]
 refine gm ?_;intro b8
 have hB8:az [(b8,ax [.func (.func 80) #[] #[ptr b2],.func (.func 82) #[] #[ptr b2]] 96)] 96 1 (.slice (some ⟨b8,0,none⟩) 2 2) 2 (xj b2 b6 []):=⟨rfl,by simp [xj,Value.oneCell'],.inr ⟨b8,2,[],rfl,rfl,by omega,by simp [maxLen],rfl⟩⟩
 refine gc (pS p qs R C hC i q n hq hn h) ?_
 rintro _ _ ⟨rfl,rfl⟩
 refine gl [2,3,6,36] (fun ((k,_,v,_):Nat×List Nat×Value×Chunk×Chunk)=>[(37,.int .i64 k),(8,v)]) (fun (_,_,_,D,B)=>[D,B]) (fun (k,bs,v,D,B)=>k<=4/\bs.length=k/\B=bxr n bs/\az D 96 1 v (2+k) (xj b2 b6 bs)) (fun (k,_)=>4 - k) (0,[],_,[(b8,ax [.func (.func 80) #[] #[ptr b2],.func (.func 82) #[] #[ptr b2]] 96)],[]) ⟨by omega,rfl,rfl,hB8⟩ ?_
 rintro ⟨k,bs,v,D,B⟩ ⟨rG,dr,hBx,hD⟩
 refine gi ?_ ?_ <;> intro bo
 ·have Mk:k<4:=by omega
  have Fp:=zY n Mk
  refine ga ?_;intro xc
  refine gm ?_;intro b11
  refine gp ?_;intro fL c3 C3 km
  have km:az C3 96 1 (.slice fL (2+k+1) c3) (2+k+1) (xj b2 b6 (xc :: bs)):=by simpa [xj] using km
  refine gn ?_
  exact ⟨(k+1,xc :: bs,_,C3,[(xc,ax [.int .i64 (fC n k)] 3)]++B),⟨by omega,by simp [dr],by rw [hBx,bxr,dr],km⟩,by simp only;omega,aq,_,aa⟩
 ·obtain rfl:k=4:=by omega
  obtain ⟨x3,x2,x1,x0,rfl⟩:∃a b c d,bs=[a,b,c,d]:=by
   rcases bs with _ | ⟨x3,_ | ⟨x2,_ | ⟨x1,_ | ⟨x0,_ | ⟨y,r⟩⟩⟩⟩⟩ <;> simp at dr
   exact ⟨_,_,_,_,rfl⟩
  have hBx:B=[(x3,ax [.int .i64 (fC n 3)] 3)]++([(x2,ax [.int .i64 (fC n 2)] 3)]++([(x1,ax [.int .i64 (fC n 1)] 3)]++([(x0,ax [.int .i64 (fC n 0)] 3)]++[]))):=hBx
  subst hBx
  refine gs ?_
  refine gm ?_;intro b11
  refine gp ?_;intro fL c3 C3 km
  have km:az C3 96 1 (.slice fL 7 c3) 7 [.func (.func 80) #[] #[ptr b2],.func (.func 82) #[] #[ptr b2],fF b2 b6 x0,fF b2 b6 x1,fF b2 b6 x2,fF b2 b6 x3,.func (.func 85) #[ptr q] #[]]:=km
  obtain ⟨gs',os',rfl⟩:=km.rd.addr oZ
  have Fq:=km.rd
  obtain ⟨s,Kp⟩:∃s,s=whole (dL l):=⟨_,rfl⟩
  rw [<-Kp] at fH ⊢
  have hg:Rd [(g,ax (ak s) 5)] 1 (.slice (some ⟨g,0,none⟩) (1*128) 128) (1*128) (ak ([s]:List eG).flatten):=by
   rw [show ([s]:List eG).flatten=s by simp];exact av (by rw [ai,fH]) (aK _) oZ _
  obtain ⟨Q,hQ⟩:∃Q:Nat->Rk,Q=fun k=>R.run (upto (gC n i s) k):=⟨_,rfl⟩
  have q0:Q 0=R:=by rw [hQ];rfl
  have qs1:∀k,Q (k+1)=(Q k).run (gC n i s k):=fun k=>by rw [hQ];exact dP ..
  have qw:∀k,k<=7->(Q k).ws.length<=R.ws.length+2000:=fun k hk=>by rw [hQ];exact Zp R n i s hk
  have ql:∀k,(Q k).live i:=fun k=>by rw [hQ];exact (Rk.eh _ _ _).2 hl
  have qn:∀k,(Q k).size i=n:=fun k=>by rw [hQ];exact (Rk.dj _ _ _).trans hn
  have qo:∀k,(Q k).off=false:=fun k=>by rw [hQ];exact (bZ.run _).2
  rw [show R.run (upto (gC n i s) 7)=Q 7 by rw [hQ]]
  rw [<-q0] at hC
  clear hQ q0
  have q00:Q 1=(Q 0).run (fT i 0 (List.replicate 274 fK)):=qs1 0
  have q01:Q 2=(Q 1).run (fT i (n - 18) (List.replicate 18 fK)):=qs1 1
  have q06:Q 7=(Q 6).ev (.f i):=qs1 6
  have nL:∀(k:Nat) (C:Chunk),k<4->bq p qs ((Q (k+2))) C->Ct 81 [ptr q,.int .i64 (fC n k),.slice (some ⟨g,0,none⟩) (1*128) 128] [C,[(g,ax (ak s) 5)]] fun u Bs=>∃C',u = .int .i64 0/\bq p qs ((Q (k+3))) C'/\Bs=[C',[(g,ax (ak s) 5)]]:=fun k C hk hC=>by
   have mw:=zX (k:=k) h.1
   have MN:=qw (k+2) oZ
   have:=kJ p qs _ C hC i q (fC n k) 1 [s] [(g,ax (ak s) 5)] (some ⟨g,0,none⟩) 128 hq (ql _) (by simp [fH]) rfl (by rw [qn];omega) hg oZ oZ
   have hf:gC n i s (k+2)=fT i (fC n k) [s]:=by rcases (show k=0\/k=1\/k=2\/k=3 by omega) with rfl | rfl | rfl | rfl <;> rfl
   rw [<-hf,<-qs1,qo] at this
   exact this
  refine gl [2,3,50,51] (fun ((k,_):Nat×Chunk)=>[(52,.int .i64 k)]) (fun (_,C)=>[C]) (fun (k,C)=>k<=7/\bq p qs (Q k) C) (fun (k,_)=>7 - k) (0,C) ⟨by omega,hC⟩ ?_
  rintro ⟨k,C⟩ ⟨hk7,hC⟩
  refine gi ?_ ?_ <;> intro bo
  ·have MN:=qw k hk7
   have gN:=ql k
   have aQ:=qo (k+1)
   have D6:∀C',bq p qs (Q (k+1)) C'->k+1<=7/\bq p qs (Q (k+1)) C':=fun C' bA=>⟨by omega,bA⟩
   rcases (show k=0\/k=1\/k=2\/k=3\/k=4\/k=5\/k=6 by omega) with rfl | rfl | rfl | rfl | rfl | rfl | rfl
   ·refine ge ?_
    refine gd [0,5,11,14] ?_
    refine gm ?_;intro KT
    have hz:Rd [(KT,ax (List.replicate 35072 (.int .u8 0)) 5)] 1 (.slice (some ⟨KT,0,none⟩) (274*128) 35072) (274*128) (ak (List.replicate 274 fK).flatten):=by
     rw [WX];exact av (by rw [List.length_replicate]) (fun u hu=>by rw [(List.mem_replicate.1 hu).2];rfl) oZ _
    refine gc (kJ p qs _ C hC i q 0 274 (List.replicate 274 fK) _ _ 35072 hq gN (fun s hs=>by rw [(List.mem_replicate.1 hs).2];rfl) List.length_replicate (by rw [qn];omega) hz oZ oZ) ?_
    rintro _ _ ⟨C',rfl,bA,rfl⟩
    rw [<-q00] at bA ⊢
    rw [qo]
    refine gn ?_
    exact ⟨(1,C'),D6 C' bA,by simp only;omega,aq,_,aa⟩
   ·refine ge ?_
    refine gdo (aA.cons (0,0) (aA.cons (1,0) (aA.fork 2 (aA.y7 [(3,0),(4,1),(5,3),(6,2)]) 4 (aA.y7 [(2,1),(3,0),(5,3),(6,2)])))) ?_
    have YW:∀KT,Ct 81 [ptr q,.int .i64 ((n - 18:Nat):Int),.slice (some ⟨KT,0,none⟩) (18*128) 2304] [C,[(KT,ax (List.replicate 2304 (.int .u8 0)) 5)]] fun u Bs=>∃C',u = .int .i64 0/\bq p qs (Q 2) C'/\Bs=[C',[(KT,ax (List.replicate 2304 (.int .u8 0)) 5)]]:=fun KT=>by
     have hz:Rd [(KT,ax (List.replicate 2304 (.int .u8 0)) 5)] 1 (.slice (some ⟨KT,0,none⟩) (18*128) 2304) (18*128) (ak (List.replicate 18 fK).flatten):=by
      rw [WX];exact av (by rw [List.length_replicate]) (fun u hu=>by rw [(List.mem_replicate.1 hu).2];rfl) oZ _
     have:=kJ p qs _ C hC i q (n - 18) 18 (List.replicate 18 fK) _ _ 2304 hq gN (fun s hs=>by rw [(List.mem_replicate.1 hs).2];rfl) List.length_replicate (by rw [qn];omega) hz oZ oZ
     rw [<-q01,qo] at this
     exact this
    refine gk ?_ ?_
    ·refine gc (cQ p qs _ C hC i q hq) ?_
     rintro _ _ ⟨rfl,rfl⟩
     rw [qn]
     refine gm ?_;intro KT
     refine gc (YW KT) ?_
     rintro _ _ ⟨C',rfl,bA,rfl⟩
     refine gn ?_
     exact ⟨(2,C'),D6 C' bA,by simp only;omega,aq,_,aa⟩
    ·refine gm ?_;intro KT
     refine gc (cQ p qs _ C hC i q hq) ?_
     rintro _ _ ⟨rfl,rfl⟩
     rw [qn]
     refine gc (YW KT) ?_
     rintro _ _ ⟨C',rfl,bA,rfl⟩
     refine gn ?_
     exact ⟨(2,C'),D6 C' bA,by simp only;omega,aq,_,aa⟩
   ·refine ge ?_
    refine gc (nL 0 C oZ hC) ?_
    rintro _ _ ⟨C',rfl,bA,rfl⟩
    refine gn ?_
    exact ⟨(3,C'),D6 C' bA,by simp only;omega,aq,_,aa⟩
   ·refine ge ?_
    refine gc (nL 1 C oZ hC) ?_
    rintro _ _ ⟨C',rfl,bA,rfl⟩
    refine gn ?_
    exact ⟨(4,C'),D6 C' bA,by simp only;omega,aq,_,aa⟩
   ·refine ge ?_
    refine gc (nL 2 C oZ hC) ?_
    rintro _ _ ⟨C',rfl,bA,rfl⟩
    refine gn ?_
    exact ⟨(5,C'),D6 C' bA,by simp only;omega,aq,_,aa⟩
   ·refine ge ?_
    refine gc (nL 3 C oZ hC) ?_
    rintro _ _ ⟨C',rfl,bA,rfl⟩
    refine gn ?_
    exact ⟨(6,C'),D6 C' bA,by simp only;omega,aq,_,aa⟩
   ·refine gc (CU p qs _ C hC i q hq gN) ?_
    rintro _ _ ⟨C',rfl,bA,rfl⟩
    rw [<-q06] at bA ⊢
    rw [qo]
    refine gn ?_
    exact ⟨(7,C'),D6 C' bA,by simp only;omega,aq,_,aa⟩
  ·obtain rfl:k=7:=by omega
   refine gc (lF O _ _ c _ hO ⟨by omega,by omega⟩) ?_
   rintro _ _ ⟨ba,c',D',rfl,eo,rfl⟩
   refine ga ?_;intro a
   refine gz ?_
   exact fin ⟨a,[(a,Wx q l (.slice ba l.aJ.length c') 0 0 0)]++D',_,rfl,⟨_,c',D',0,0,0,eo,rfl⟩,hC,rfl⟩ (by simp only [Wx,Y7];exact aa)
set_option maxHeartbeats 4000000
theorem bq.nodup {p:Nat}{qs:List Nat}{R:Rk}{C:Chunk}(h:bq p qs R C):qs.Nodup:=by obtain ⟨xs,vw,vd,Cw,Cd,z, -,h, -⟩:=h;exact h
theorem bq.pb {p:Nat}{qs:List Nat}{R:Rk}{C:Chunk}(h:bq p qs R C){i j:Nat}(hi:i∈qs)(hj:j∈qs):PB C i j:=by
 obtain ⟨xs,vw,vd,Cw,Cd,z,rfl, -,hl, -, -, -, -,rfl⟩:=h
 have hb:∀q,q∈xs.map (·.q)->JW ([(p,Mm vw R.left R.off z vd)]++(Cw++(Cd++rD p xs R.ds))) q:=fun q hq=>by
  obtain ⟨x,hx,rfl⟩:=List.mem_map.1 hq
  obtain ⟨l,T,h⟩:=tE p hl hx
  exact ⟨l,T,List.mem_append_right _ (List.mem_append_right _ (List.mem_append_right _ h))⟩
 exact .inr ⟨hb i hi,hb j hj⟩
theorem Ea (p:Nat)(qs:List Nat)(R:Rk)(C:Chunk)(hC:bq p qs R C)(k q:Nat)(hk:qs[k]? = some q)(Q:Chunk)(ad:Option Addr)(m c:Nat)(hm:m<=1000)(hQ:Rd Q 1 (.slice ad m c) m ((qs.drop (k+1)).map ptr)) :
  Ct 31 [.slice ad m c,ptr q] [C,Q] fun u Bs=>u = .bool false/\Bs=[C,Q]:=by
 have hl:(qs.drop (k+1)).length=m:=by have:=hQ.1;simpa using this
 refine st Tryz.func31 fun w0 => ?_
 refine ge ?_
 refine gl [0,1,6,7] (fun j:Nat=>[(8,.int .i64 j)]) (fun _=>[]) (fun j=>j<=m) (fun j=>m - j) 0 oZ ?_
 intro j hj
 refine gi ?_ ?_ <;> intro bo
 ·obtain ⟨x,hx⟩:=eB (l:=qs.drop (k+1)) (i:=j) oZ
  have bV:((qs.drop (k+1)).map ptr)[j]? = some (ptr x):=by rw [List.getElem?_map,hx];rfl
  have yu:qs[k+1+j]? = some x:=by rw [List.getElem?_drop] at hx;exact hx
  have hpb:=hC.pb (List.mem_of_getElem? hk) (List.mem_of_getElem? yu)
  have eL:q≠x:=fun h=>by
   subst h
   have:=hC.nodup
   obtain ⟨h1,e1⟩:=List.getElem?_eq_some_iff.1 hk
   obtain ⟨h2,e2⟩:=List.getElem?_eq_some_iff.1 yu
   have:=(List.getElem_inj this).1 (e1.trans e2.symm)
   omega
  obtain ⟨g,off,rfl⟩:=hQ.addr oZ
  refine gn ?_
  exact ⟨j+1,by omega,by omega,aq,_,aa⟩
 ·refine gz ?_
  exact fin ⟨rfl,rfl⟩ aa
end Go.Proofs.YteldablklnfblaaGreatDoor
namespace Go.Sl
theorem nz {α:Type}{A:List α}{z v:α}{w j:Nat}(hA:A.length=j)(hj:j<w):(A++List.replicate (w - j) z).set j v=(A++[v])++List.replicate (w - (j+1)) z:=by
 obtain ⟨r,hr⟩:∃r,w - j=r+1:=⟨w - j - 1,by omega⟩
 rw [hr,show w - (j+1)=r by omega,List.replicate_succ]
 subst hA
 simp
def qT (n:Nat)(lb:Nat->eU)(k:Nat):List Ev:=upto (gC n k (whole (dL (lb k)))) 7
def jK (qs:List Nat)(ls:List (Option Lv)):Prop:=∀k,k<ls.length->∃a q,qs[k]? = some q/\ls[k]? = some (some ⟨a,k,q⟩)
theorem jK.snoc {qs:List Nat}{ls:List (Option Lv)}(h:jK qs ls){a q:Nat}(hq:qs[ls.length]? = some q):jK qs (ls++[some (⟨a,ls.length,q⟩:Lv)]):=fun k hk=>by
 rw [List.length_append] at hk
 rcases (show k<ls.length\/k=ls.length by simp at hk;omega) with c | rfl
 ·obtain ⟨a',q',h1,h2⟩:=h k c
  exact ⟨a',q',h1,by rw [List.getElem?_append_left c];exact h2⟩
 ·exact ⟨a,q,hq,by simp⟩
theorem jK.all {qs:List Nat}{ls:List (Option Lv)}(h:jK qs ls):∀x∈ls,x≠none:=fun x hx=>by
 obtain ⟨k,hk⟩:=List.mem_iff_getElem?.1 hx
 obtain ⟨a,q, -,h2⟩:=h k (List.getElem?_eq_some_iff.1 hk).1
 rw [hk] at h2;cases h2;simp
theorem jK.ok {qs:List Nat}{ls:List (Option Lv)}(h:jK qs ls){R:Rk}{n:Nat}(hl:∀k,k<ls.length->R.live k/\R.size k=n):dJ qs R n ls:=fun x hx=>by
 obtain ⟨k,hk⟩:=List.mem_iff_getElem?.1 hx
 have lY:=(List.getElem?_eq_some_iff.1 hk).1
 obtain ⟨a,q,h1,h2⟩:=h k lY
 rw [hk] at h2;cases h2
 exact ⟨h1,hl k lY⟩
end Go.Sl
namespace Go.Proofs.YteldablklnfblaaGreatDoor
open Go.Sl
set_option maxRecDepth 10000
set_option maxHeartbeats 2000000
theorem iy.snoc {mk:Nat->eU}{x:Lv}{L1:Chunk}:∀ {ls:List (Option Lv)} {k0:Nat} {L:Chunk},iy mk k0 ls L->OD x.a x.q (mk (k0+ls.length)) L1->iy mk k0 (ls++[some x]) (L++L1)
 | [],k0,L,h,h1=>by
  obtain rfl:L=[]:=h
  exact ⟨L1,[],h1,rfl,by simp⟩
 | none :: ls,k0,L,h,h1=>iy.snoc (ls:=ls) (k0:=k0+1) (L:=L) h (by rw [show k0+1+ls.length=k0+(none :: ls).length by simp only [List.length_cons];omega];exact h1)
 | some y :: ls,k0,L,⟨A,B,h2,h3,h4⟩,h1=>by
  refine ⟨A,B++L1,h2,iy.snoc (ls:=ls) (k0:=k0+1) (L:=B) h3 (by rw [show k0+1+ls.length=k0+(some y :: ls).length by simp only [List.length_cons];omega];exact h1),by rw [h4,List.append_assoc]⟩
theorem KV (T:TypeId)(fr:Nat×Nat)(p:Nat)(qs:List Nat)(pool:Nat)(tp:Tp)(pr:Bool)(n w:Nat)(ok:dK tp pr n w)(hqs:qs.length=w)(R:Rk)(C:Chunk)(hC:bq p qs R C)(bZ:R.on)(wh:∀k,k<w->R.live k/\R.size k=n)
  (Kq:∀k,k<w->uX ⟨pool,[tp],0,k⟩=0/\eU.Ok ⟨pool,[tp],0,k⟩) (hw0:R.ws.length<=700000000000) (O:Chunk) (IK:Option Addr) (co:Nat) (hO:az O 23 3 (.slice IK 1 co) 1 tp.lay) (Q:Chunk) (jB:Option Addr) (cq:Nat) (hQ:Rd Q 1 (.slice jB w cq) w (qs.map ptr)) (hcq:w<=cq) :
  Ct 11 [.int .u64 pool,.slice IK 1 co,.slice jB w cq] [gK T fr,C,O,Q] fun u Bs=>∃t V ls C',u = .tuple #[ptr t,.int .i64 0]/\ls.length=w/\jK qs ls/\jb t pool tp pr n ls 1 V/\bq p qs (R.run (upto (qT n fun k=>⟨pool,[tp],0,k⟩) w)) C'/\Bs=[V,gK T fr,C',O,Q]:=by
 have hn:=ok.hn
 have j9:=ok.hw
 have htp:=ok.ht
 have Zq:tp.leaves=w:=by rw [htp]
 have vg:tp.bz=n:=by rw [htp]
 refine st Tryz.func11 fun w0 => ?_
 refine gc (lF O IK 1 co _ hO oZ) ?_
 rintro _ _ ⟨fV,cT,DT,rfl,hT,rfl⟩
 refine ga ?_;intro t
 refine gc (yA t pool fV 1 cT _ _ _ _ 0 0) ?_
 rintro _ _ ⟨rfl,rfl⟩
 have CI:=rv DT (.slice fV 1 cT) ⟨pool,[tp],0,0⟩ 1 rfl (by simpa using hT.rd)
 rw [show uX ⟨pool,[tp],0,0⟩=0 from (Kq 0 oZ).1] at CI
 refine gc CI ?_
 rintro _ _ ⟨rfl,rfl⟩
 refine gc (yB t pool tp w ⟨Zq,j9.2⟩ fV cT DT hT _ 1) ?_
 rintro _ _ ⟨jX,cL,DL,lQ,Bw,cD,DD,nQ,DY,Mz,rfl⟩
 have hTr:=hT.rd
 obtain ⟨gT,oT,rfl⟩:=hTr.addr oZ
 have jw:=Mz.rd
 obtain ⟨gD,oD,rfl⟩:=jw.addr oZ
 have IW:=DY.rd
 obtain ⟨gL,oL,rfl⟩:=IW.addr oZ
 have hsT:Sub (0*3) tp.lay tp.lay:=ar Tp.aj [tp] 0 tp rfl
 have hcD:[Value.slice (some ⟨nQ,0,none⟩) w w][0]? = some (.slice (some ⟨nQ,0,none⟩) w w):=rfl
 have hcL:[Value.slice (some ⟨lQ,0,none⟩) w w][0]? = some (.slice (some ⟨lQ,0,none⟩) w w):=rfl
 rw [show List.replicate w (Value.pointer none)=((qs.take 0).map ptr)++List.replicate (w - 0) (Value.pointer none) by simp]
 refine gl [6,7,8,35,36] (fun ((j,d,ad,c):Nat×Nat×Option Addr×Nat)=>[(37,.int .i64 j),(9,.slice ad (w - d) c)]) (fun (_,d,_)=>[[(nQ,ax (((qs.take d).map ptr)++List.replicate (w - d) (.pointer none)) 46)]]) (fun (j,d,ad,c)=>j<=1/\d=j*w/\w - d<=c/\Rd Q 1 (.slice ad (w - d) c) (w - d) ((qs.drop d).map ptr)) (fun (j,_)=>1 - j) (0,0,jB,cq) ⟨by omega,by omega,by omega,by rw [List.drop_zero];exact hQ⟩ ?_
 rintro ⟨j,d,ad,c⟩ ⟨hj,hd,hc,hQ⟩
 refine gi ?_ ?_ <;> intro bo
 ·obtain rfl:j=0:=by omega
  rw [Nat.zero_mul] at hd
  refine ga ?_;intro b11
  refine gl [6,7,8,10,11,35,36,37,43] (fun ((d,ad,c):Nat×Option Addr×Nat)=>[(44,.int .i64 d),(9,.slice ad (w - d) c)]) (fun (d,_)=>[[(nQ,ax (((qs.take d).map ptr)++List.replicate (w - d) (.pointer none)) 46)]]) (fun (d,ad,c)=>d<=w/\w - d<=c/\Rd Q 1 (.slice ad (w - d) c) (w - d) ((qs.drop d).map ptr)) (fun (d,_)=>w - d) (d,ad,c) ⟨by omega,hc,hQ⟩ ?_
  rintro ⟨d,ad,c⟩ ⟨hdw,hc,hQ⟩
  refine gi ?_ ?_ <;> intro pL
  ·obtain ⟨q,hq⟩:=eB (l:=qs) (i:=d) oZ
   obtain ⟨gq,oq,rfl⟩:=hQ.addr oZ
   have Sb:((qs.drop d).map ptr)[0]? = some (ptr q):=by rw [List.getElem?_map,List.getElem?_drop,Nat.add_zero,hq];rfl
   have Mq:w - d - 1=w - (d+1):=by omega
   have ou:(((qs.drop d).map ptr).drop (1*1)).take ((w - d - 1)*1)=(qs.drop (d+1)).map ptr:=by
    rw [Nat.mul_one,Nat.mul_one,<-List.map_drop,List.drop_drop,List.take_of_length_le (by rw [List.length_map,List.length_drop];omega)]
   have fm:(((qs.take d).map ptr)++List.replicate (w - d) (Value.pointer none)).set d (ptr q)=((qs.take (d+1)).map ptr)++List.replicate (w - (d+1)) (.pointer none):=by
    obtain ⟨jh,he⟩:=List.getElem?_eq_some_iff.1 hq
    rw [nz (by rw [List.length_map,List.length_take];omega) oZ,List.take_succ_eq_append_getElem jh,he,List.map_append];rfl
   have afm:(((qs.take d).map ptr)++List.replicate (w - d) (Value.pointer none)).length=w:=by rw [List.length_append,List.length_map,List.length_take,List.length_replicate];omega
   have bu:=(wh d oZ).2
   refine gd [0,4,8,12,16,20,24,28,32,36,40,44,48,52,56,61,64,68,72,76,80,88,92,85,96,100] ?_
   refine gw ?_;intro fL hQ3
   refine gc (Ea p qs R C hC d q hq Q _ _ _ oZ hQ3) ?_
   rintro _ _ ⟨rfl,rfl⟩
   refine gc (cQ p qs R C hC d q hq) ?_
   rintro _ _ ⟨rfl,rfl⟩
   rw [bu]
   refine gd [0,4,8,12,16,20,24,28,32,36,40,46,50,52,59,62] ?_
   refine gw ?_;intro ry hQ5
   refine gn ?_
   rw [fm]
   exact ⟨(d+1,ry,c - 1),⟨by omega,by omega,hQ5⟩,by simp only;omega,aq,_,aa⟩
  ·obtain rfl:d=w:=by omega
   refine gn ?_
   exact ⟨(1,d,ad,c),⟨by omega,by omega,hc,hQ⟩,by simp only;omega,aq,_,aa⟩
 ·obtain rfl:j=1:=by omega
  rw [Nat.one_mul] at hd
  subst hd
  rw [show (qs.take d).map ptr++List.replicate (d - d) (Value.pointer none)=qs.map ptr by rw [Nat.sub_self,List.replicate_zero,List.append_nil,List.take_of_length_le oZ]]
  obtain ⟨mk,IX⟩:∃mk:Nat->eU,mk=fun k=>⟨pool,[tp],0,(k:Nat)⟩:=⟨_,rfl⟩
  rw [<-IX]
  rw [show List.map ptr (List.take 0 qs)++List.replicate (d - 0) (Value.pointer none)=(([]:List (Option Lv)).map iw)++List.replicate (d - ([]:List (Option Lv)).length) (Value.pointer none) by simp]
  refine gl [6,7,8,95,96] (fun ((j,_):Nat×List (Option Lv)×Chunk×Chunk)=>[(97,.int .i64 j)]) (fun (_,ls,C,L)=>[[(lQ,ax ((ls.map iw)++List.replicate (d - ls.length) (.pointer none)) 92)],C,L]) (fun (j,ls,C,L)=>j<=1/\ls.length=j*d/\jK qs ls/\iy mk 0 ls L/\bq p qs (R.run (upto (qT n mk) ls.length)) C) (fun (j,_)=>1 - j) (0,[],C,[]) ⟨by omega,by simp,(fun k hk=>absurd hk (by simp)),rfl,hC⟩ ?_
  rintro ⟨j,ls,C,L⟩ ⟨hj,jk,IY,hL,hC⟩
  refine gi ?_ ?_ <;> intro bo
  ·obtain rfl:j=0:=by omega
   rw [Nat.zero_mul] at jk
   refine gl [6,7,8,13,95,96,97,102,103] (fun ((j,_):Nat×List (Option Lv)×Chunk×Chunk)=>[(104,.int .i64 j)]) (fun (_,ls,C,L)=>[[(lQ,ax ((ls.map iw)++List.replicate (d - ls.length) (.pointer none)) 92)],C,L]) (fun (j,ls,C,L)=>j<=d/\ls.length=j/\jK qs ls/\iy mk 0 ls L/\bq p qs (R.run (upto (qT n mk) ls.length)) C) (fun (j,_)=>d - j) (0,ls,C,L) ⟨by omega,jk,IY,hL,hC⟩ ?_
   rintro ⟨j,ls,C,L⟩ ⟨hj,jk,IY,hL,hC⟩
   refine gi ?_ ?_ <;> intro pL
   ·obtain ⟨q,hq⟩:=eB (l:=qs) (i:=j) oZ
    obtain ⟨tt,jj⟩:=wh j oZ
    have MC:mk j=⟨pool,[tp],0,(j:Nat)⟩:=by rw [IX]
    have afU:=Rk.iL R (upto (qT n mk) ls.length)
    have hb2:(R.run (upto (qT n mk) ls.length)).ws.length<=R.ws.length+ls.length*2000:=by
     have h1:=cV (f:=qT n mk) (c:=2000) (fun k=>by
      have:=cV (f:=gC n k (whole (dL (mk k)))) (c:=274) (fun k=>by unfold gC;split <;> simp only [fu,List.length_replicate,List.length_cons,List.length_nil] <;> omega) 7
      unfold qT;omega) ls.length
     omega
    have MD:=KS T fr p qs _ C hC j q n hq ((Rk.eh ..).2 tt) (bZ.run _) (by rw [Rk.dj,jj]) hn (mk j) (by rw [MC];exact (Kq j oZ).1) (by rw [MC];exact (Kq j oZ).2)
     (fun t ht=>by rw [MC] at ht;simp at ht;rw [<-ht];exact vg) (some ⟨gT,oT,none⟩) cT DT (by rw [MC];simpa using hT) oZ
    have hlg:mE (mk j) (.slice (some ⟨gT,oT,none⟩) (mk j).aJ.length cT) = .agg #[.int .u64 pool,.slice (some ⟨gT,oT,none⟩) 1 cT,.int .i64 0,.int .i64 j]:=by rw [MC];rfl
    rw [hlg] at MD
    have dC:(R.run (upto (qT n mk) ls.length)).run (upto (gC n j (whole (dL (mk j)))) 7)=R.run (upto (qT n mk) (ls.length+1)):=by rw [dP R (qT n mk) ls.length,jk];rfl
    rw [dC] at MD
    refine gc (yA t pool (some ⟨gT,oT,none⟩) 1 cT _ _ _ _ 0 j) ?_
    rintro _ _ ⟨rfl,rfl⟩
    refine gc MD ?_
    rintro _ _ ⟨a,L1,C',rfl,hL1,bA,rfl⟩
    have fm:(ls.map iw++List.replicate (d - ls.length) (Value.pointer none)).set j (ptr a)=(ls++[some (⟨a,ls.length,q⟩:Lv)]).map iw++List.replicate (d - (ls++[some (⟨a,ls.length,q⟩:Lv)]).length) (.pointer none):=by
     rw [List.length_append,List.map_append,jk,nz (by rw [List.length_map,jk]) oZ];rfl
    have hlen:(ls.map iw++List.replicate (d - ls.length) (Value.pointer none)).length=d:=by rw [List.length_append,List.length_map,List.length_replicate];omega
    refine gn ?_
    rw [fm]
    exact ⟨(j+1,ls++[some (⟨a,ls.length,q⟩:Lv)],C',L++L1),⟨by omega,by rw [List.length_append,jk];rfl,IY.snoc (by rw [jk];exact hq),hL.snoc (by rw [Nat.zero_add,jk];exact hL1),by rw [List.length_append];exact bA⟩,by simp only;omega,aq,_,aa⟩
   ·obtain rfl:j=d:=by omega
    refine gn ?_
    exact ⟨(1,ls,C,L),⟨by omega,by omega,IY,hL,hC⟩,by simp only;omega,aq,_,aa⟩
  ·obtain rfl:j=1:=by omega
   rw [Nat.one_mul] at jk
   have hall:=IY.all
   have Bx:az [(lQ,ax ((ls.map iw)++List.replicate (d - ls.length) (.pointer none)) 92)] 92 1 (.slice (some ⟨lQ,0,none⟩) ls.length d) ls.length (ls.map iw):=⟨by simp,fun u hu=>by
    obtain ⟨o,_,rfl⟩:=List.mem_map.1 hu
    rcases o with _ | x <;> rfl,.inr ⟨lQ,d,List.replicate (d - ls.length) (.pointer none),rfl,rfl,by omega,by simp only [maxLen];omega,by rw [List.length_map,List.length_replicate];omega⟩⟩
   have aeg:az DL 95 1 (.slice (some ⟨gL,oL,none⟩) 1 cL) 1 [.slice (some ⟨lQ,0,none⟩) ls.length d]:=by rw [jk];exact DY
   have gN:=IY.ok (R:=R.run (upto (qT n mk) ls.length)) (n:=n) fun k hk=>⟨(Rk.eh ..).2 (wh k oZ).1,by rw [Rk.dj];exact (wh k oZ).2⟩
   rw [IX] at hL
   have Mc:=DZ p qs t pool tp pr n ls (by rw [jk];exact ok) hall _ C L hC gN hL _ cT DT hT _ cL DL _ d _ aeg Bx (.slice (some ⟨gD,oD,none⟩) 1 cD) (DD++[(nQ,ax (qs.map ptr) 46)]) 1
   refine gc Mc ?_
   rintro _ _ ⟨rfl,V,hV,rfl⟩
   refine gz ?_
   rw [jk] at hC
   exact fin ⟨t,V,ls,C,rfl,jk,IY,hV,hC,rfl⟩ aa
end Go.Proofs.YteldablklnfblaaGreatDoor
namespace Go.Sl
def GV (n:Nat)(ls:List (Option Lv))(x:Ub)(k:Nat):List Ev:=match ls[k]? with
 | some (some y)=>upto (jW n y.i x) 4
 | _=>[]
def oM (n:Nat)(ls:List (Option Lv))(x:Ub):List Ev:=upto (GV n ls x) ls.length
end Go.Sl
namespace Go.Proofs.YteldablklnfblaaGreatDoor
open Go.Sl
set_option maxRecDepth 10000
set_option maxHeartbeats 4000000
section
variable (T:TypeId)(fr:Nat×Nat)(p:Nat)(qs:List Nat)(t pool:Nat)(tp:Tp)(pr:Bool)(n:Nat)(ls:List (Option Lv))(no:Nat)(V:Chunk)(hV:jb t pool tp pr n ls no V)(ok:dK tp pr n ls.length)
include hV ok
theorem IZ (R:Rk)(C:Chunk)(hC:bq p qs R C)(ho:dJ qs R n ls)(hall:∀x∈ls,x≠none)(x:Ub)(hx:zP x=0)(Ft:x.Ok)(hp:x.pool=pool)(hw:R.ws.length+40<=900000000000) :
  Ct 102 [ptr t,x.agg] [gK T fr,C,V] fun u Bs=>∃C',u = .int .i64 (if (R.run (oM n ls x)).off then 5 else 0)/\bq p qs (R.run (oM n ls x)) C'/\Bs=[gK T fr,C',V]:=by
 obtain ⟨m,M,fV,cT,DT,dQ,cI,DI,jX,cL,DL,oH,cl,Dl,vD,DD,L,hT,hI,xb,hl,hM,hL,rfl⟩:=hV
 have O0:=hI.rd
 obtain ⟨gI,oI,rfl⟩:=O0.addr oZ
 have IW:=xb.rd
 obtain ⟨gL,oL,rfl⟩:=IW.addr oZ
 have hn:=ok.hn
 have j9:=ok.hw
 have tz:=hl.rd
 obtain ⟨lQ,ol,rfl⟩:=tz.addr oZ
 have qO:[Value.slice (some ⟨lQ,ol,none⟩) ls.length cl][0]? = some (.slice (some ⟨lQ,ol,none⟩) ls.length cl):=rfl
 have IX:∀k,(GV n ls x k).length<=4:=fun k=>by
  unfold GV
  split
  ·rename_i y hy
   have:=cV (f:=jW n y.i x) (c:=1) (fun k=>by unfold jW;rw [fu];simp) 4
   omega
  ·simp
 refine st Tryz.func102 fun w0 => ?_
 refine gs ?_
 refine ga ?_;intro b3
 refine gc (rz x hx) ?_
 rintro _ _ ⟨rfl,rfl⟩
 refine gl [0,3,6,29,30] (fun ((j,_):Nat×Chunk)=>[(31,.int .i64 j)]) (fun (_,C)=>[C]) (fun (j,C)=>j<=1/\(j=0->bq p qs R C)/\(j=1->bq p qs (R.run (oM n ls x)) C/\(R.run (oM n ls x)).off=false)) (fun (j,_)=>1 - j) (0,C) ⟨by omega,(fun _=>hC),(fun h=>absurd h oZ)⟩ ?_
 rintro ⟨j,C⟩ ⟨hj,Tq,rp⟩
 refine gi ?_ ?_ <;> intro bo
 ·obtain rfl:j=0:=by omega
  have hC:=Tq rfl
  refine gl [0,3,6,7,29,30,31,36,37] (fun ((j,t9,_):Nat×Bool×Chunk)=>[(38,.int .i64 j),(9,.bool t9)]) (fun (_,_,C)=>[C]) (fun (j,t9,C)=>j<=ls.length/\t9=decide (0<j)/\bq p qs (R.run (upto (GV n ls x) j)) C/\(0<j->(R.run (upto (GV n ls x) j)).off=false)) (fun (j,_)=>ls.length - j) (0,false,C) ⟨by omega,rfl,hC,(fun h=>absurd h oZ)⟩ ?_
  rintro ⟨j,t9,C⟩ ⟨hj,rfl,hC,jy⟩
  refine gi ?_ ?_ <;> intro pL
  ·obtain ⟨oy,hy⟩:=eB (l:=ls) (i:=j) oZ
   rcases oy with _ | y
   ·exact absurd rfl (hall _ (List.mem_of_getElem? hy))
   obtain ⟨o1,o2,o3⟩:=ho.run (upto (GV n ls x) j) y (List.mem_of_getElem? hy)
   have afV:(ls.map iw)[j]? = some (ptr y.a):=by rw [List.getElem?_map,hy];rfl
   obtain ⟨A,L1,B,pU,rfl⟩:=hL.at hy
   have yo:=Rk.iL R (upto (GV n ls x) j)
   have zy:=cV IX j
   have Aa:GV n ls x j=upto (jW n y.i x) 4:=by unfold GV;rw [hy]
   have WM:=YS T fr p qs _ C hC y.i y.q n y.a _ L1 pU o1 o2 o3 hn x hx Ft hp oZ
   rw [<-Aa,<-dP] at WM
   refine gs ?_
   cases pr
   ·have bV:[IN false m][0]? = some (.iface 173 (ptr m)):=rfl
    refine gj (OV m n ls _ hn j9.2 M hM j oZ) ?_
    rintro _ _ ⟨⟨a,b,rfl, -⟩,rfl⟩
    rw [show ((List.replicate ls.length (none:Option (Nat×Nat))).getD j none).isSome=false by simp [List.getD,List.getElem?_replicate];split <;> rfl]
    refine ga ?_;intro R5
    refine gc WM ?_
    rintro _ _ ⟨C',rfl,bA,rfl⟩
    cases dI:(R.run (upto (GV n ls x) (j+1))).off with
    | true =>
     refine gz ?_
     have e:R.run (oM n ls x)=R.run (upto (GV n ls x) (j+1)):=jx dI (by omega:j+1<=ls.length)
     rw [e,dI]
     exact fin ⟨C',rfl,bA,rfl⟩ aa
    | false =>
     refine gn ?_
     exact ⟨(j+1,true,C'),⟨by omega,by simp,bA,fun _=>dI⟩,by simp only;omega,aq,_,aa⟩
   ·have bV:[IN true m][0]? = some (.iface 169 (ptr m)):=rfl
    refine gj (OT m n ls hn ⟨ok.hp rfl,j9.2⟩ M hM j oZ) ?_
    rintro _ _ ⟨rfl,rfl⟩
    refine ga ?_;intro R5
    refine gc WM ?_
    rintro _ _ ⟨C',rfl,bA,rfl⟩
    cases dI:(R.run (upto (GV n ls x) (j+1))).off with
    | true =>
     refine gz ?_
     have e:R.run (oM n ls x)=R.run (upto (GV n ls x) (j+1)):=jx dI (by omega:j+1<=ls.length)
     rw [e,dI]
     exact fin ⟨C',rfl,bA,rfl⟩ aa
    | false =>
     refine gn ?_
     exact ⟨(j+1,true,C'),⟨by omega,by simp,bA,fun _=>dI⟩,by simp only;omega,aq,_,aa⟩
  ·obtain rfl:j=ls.length:=by omega
   rw [decide_eq_true (show 0<ls.length by omega)]
   refine gn ?_
   exact ⟨(1,C),⟨by omega,(fun h=>by cases h),(fun _=>⟨hC,jy oZ⟩)⟩,by simp only;omega,aq,_,aa⟩
 ·obtain rfl:j=1:=by omega
  obtain ⟨bA,dI⟩:=rp rfl
  refine gz ?_
  exact fin ⟨C,by rw [dI];rfl,bA,rfl⟩ aa
end
theorem Uh (m:Nat)(hm:m<=1000000):Ct 269 [.slice none 0 0,.int .i64 m] [] fun u Bs=>∃C,az C 92 1 u 0 []/\Bs=[C]:=by
 rcases Nat.eq_zero_or_pos m with rfl | h0
 ·refine st Tryz.func269 fun w0 => ?_
  refine gz ?_
  exact fin ⟨[],az.nil _ _,rfl⟩ aa
 ·refine st Tryz.func269 fun w0 => ?_
  refine gpz ?_;intro g c l hc lV hl
  refine gv ?_
  refine gz ?_
  exact fin ⟨_,uq lV hl,rfl⟩ aa
theorem KW (DL Dl:Chunk)(vL:Value)(ad:Option Addr)(w c:Nat)(xs:List Value)(hL:Rd DL 1 vL 1 [.slice ad w c])(hl:Rd Dl 1 (.slice ad w c) w xs)(hw:w<=1000):Ct 223 [vL] [DL,Dl] fun u Bs=>∃C,az C 92 1 u w xs/\Bs=[C,DL,Dl]:=by
 obtain ⟨jX,cL,rfl⟩:=hL.slice
 obtain ⟨gL,oL,rfl⟩:=hL.addr oZ
 have bV:[Value.slice ad w c][0]? = some (.slice ad w c):=rfl
 refine st Tryz.func223 fun w0 => ?_
 refine gl [0,9,10] (fun j:Nat=>[(11,.int .i64 j),(3,.int .i64 (j*w:Nat))]) (fun _=>[]) (fun j=>j<=1) (fun j=>1 - j) 0 oZ ?_
 intro j hj
 refine gi ?_ ?_ <;> intro bo
 ·obtain rfl:j=0:=by omega
  have ha:IntKind.i64.wrap (((0*w:Nat):Int)+w)=((1*w:Nat):Int):=by rw [IntWalk.i64_in _ oZ];omega
  refine gn ?_
  exact ⟨1,by omega,by omega,aq,_,aa⟩
 ·obtain rfl:j=1:=by omega
  rw [Nat.one_mul]
  refine gc (Uh w oZ) ?_
  rintro v0 _ ⟨C,hC,rfl⟩
  refine gl [0,25,26] (fun ((j,v,_):Nat×Value×Chunk)=>[(27,.int .i64 j),(6,v)]) (fun (_,_,C)=>[C]) (fun (j,v,C)=>j<=1/\(j=0->az C 92 1 v 0 [])/\(j=1->az C 92 1 v w xs)) (fun (j,_)=>1 - j) (0,v0,C) ⟨by omega,(fun _=>hC),(fun h=>by cases h)⟩ ?_
  rintro ⟨j,v,C⟩ ⟨hj,h0,h1⟩
  refine gi ?_ ?_ <;> intro bo
  ·obtain rfl:j=0:=by omega
   have Tq:=h0 rfl
   obtain ⟨j8,cv,rfl⟩:=Tq.slice
   refine gp ?_;intro fL c3 C3 km
   rw [Nat.zero_add,List.nil_append] at km
   refine gn ?_
   exact ⟨(1,.slice fL (0+w) c3,C3),⟨by omega,(fun h=>by cases h),(fun _=>by rw [Nat.zero_add];exact km)⟩,by simp only;omega,aq,_,aa⟩
  ·obtain rfl:j=1:=by omega
   have rp:=h1 rfl
   refine gz ?_
   exact fin ⟨C,rp,rfl⟩ aa
theorem KX (p:Nat)(qs:List Nat)(R:Rk)(C:Chunk)(hC:bq p qs R C)(i q a:Nat)(l:eU)(L:Chunk)(hL:OD a q l L)(hq:qs[i]? = some q)(hl:R.live i):Ct 224 [ptr a] [C,L] fun u Bs=>u = .bool false/\Bs=[C,L]:=by
 have hd:Ct 270 [ptr q] [C] fun u Bs=>u = .bool false/\Bs=[C]:=by
  obtain ⟨vw,vd,Cw,Cd,A,B,z,g1,g2,pQ,qQ,d,hO⟩:=hC.open hq
  rw [hO.YN hl]
  refine st Tryz.func270 fun w0 => ?_
  refine gs ?_
  refine gz ?_
  exact fin ⟨rfl,rfl⟩ aa
 obtain ⟨ad,c,D,z1,z2,z3,hD,rfl⟩:=hL
 refine st Tryz.func224 fun w0 => ?_
 refine gs ?_
 refine gc hd ?_
 rintro _ _ ⟨rfl,rfl⟩
 refine gz ?_
 exact fin ⟨rfl,rfl⟩ aa
section
variable (T:TypeId)(fr:Nat×Nat)(p:Nat)(qs:List Nat)(t pool:Nat)(tp:Tp)(pr:Bool)(n:Nat)(ls:List (Option Lv))(no:Nat)(V:Chunk)(hV:jb t pool tp pr n ls no V)(ok:dK tp pr n ls.length)(hall:∀x∈ls,x≠none)
include hV ok hall
theorem GW:Ct 166 [ptr t] [V] fun u Bs=>∃C,az C 92 1 u ls.length (ls.map iw)/\Bs=[C,V]:=by
 obtain ⟨m,M,fV,cT,DT,dQ,cI,DI,jX,cL,DL,oH,cl,Dl,vD,DD,L,hT,hI,xb,hl,hM,hL,rfl⟩:=hV
 have j9:=ok.hw
 refine st Tryz.func166 fun w0 => ?_
 refine gs ?_
 refine gc (KW DL Dl _ oH ls.length cl _ xb.rd hl.rd oZ) ?_
 rintro _ _ ⟨Cx,hCx,rfl⟩
 obtain ⟨WR,cx,rfl⟩:=hCx.slice
 have hxr:=hCx.rd
 obtain ⟨gx,ox,rfl⟩:=hxr.addr oZ
 refine gl [10,11] (fun ((j,v,_):Nat×Value×Chunk)=>[(12,.int .i64 j),(3,v)]) (fun (_,_,C)=>[C]) (fun (j,v,C)=>j<=ls.length/\az C 92 1 v j ((ls.take j).map iw)) (fun (j,_)=>ls.length - j) (0,.slice none 0 0,[]) ⟨by omega,az.nil _ _⟩ ?_
 rintro ⟨j,v,C⟩ ⟨hj,hC⟩
 obtain ⟨j8,cv,rfl⟩:=hC.slice
 refine gi ?_ ?_ <;> intro bo
 ·obtain ⟨oy,hy⟩:=eB (l:=ls) (i:=j) oZ
  rcases oy with _ | y
  ·exact absurd rfl (hall _ (List.mem_of_getElem? hy))
  have bV:(ls.map iw)[j]? = some (ptr y.a):=by rw [List.getElem?_map,hy];rfl
  have Dv:(ls.take (j+1)).map iw=(ls.take j).map iw++[ptr y.a]:=by
   obtain ⟨jh,he⟩:=List.getElem?_eq_some_iff.1 hy
   rw [List.take_succ_eq_append_getElem jh,he,List.map_append];rfl
  refine gm ?_;intro b20
  refine gp ?_;intro fL c3 C3 km
  refine gn ?_
  exact ⟨(j+1,_,C3),⟨by omega,by rw [Dv];exact km⟩,by simp only;omega,aq,_,aa⟩
 ·obtain rfl:j=ls.length:=by omega
  rw [List.take_length] at hC
  refine gz ?_
  exact fin ⟨C,hC,rfl⟩ aa
theorem Ui (R:Rk)(C:Chunk)(hC:bq p qs R C)(ho:dJ qs R n ls):Ct 168 [ptr t] [C,V] fun u Bs=>u = .bool R.off/\Bs=[C,V]:=by
 have ha:=GW t pool tp pr n ls no V hV ok hall
 have j9:=ok.hw
 have hn:=ok.hn
 refine st Tryz.func168 fun w0 => ?_
 refine gc ha ?_
 rintro _ _ ⟨Ca,WY,rfl⟩
 obtain ⟨m,M,fV,cT,DT,dQ,cI,DI,jX,cL,DL,oH,cl,Dl,vD,DD,L,hT,hI,xb,hl,hM,hL,rfl⟩:=hV
 obtain ⟨Wz,ca,rfl⟩:=WY.slice
 have har:=WY.rd
 obtain ⟨ga_,oa,rfl⟩:=har.addr oZ
 refine gs ?_
 refine gl [8,9] (fun j:Nat=>[(10,.int .i64 j)]) (fun _=>[]) (fun j=>j<=ls.length/\(0<j->R.off=false)) (fun j=>ls.length - j) 0 ⟨by omega,(fun h=>by cases h)⟩ ?_
 rintro j ⟨hj,jy⟩
 refine gi ?_ ?_ <;> intro bo
 ·obtain ⟨oy,hy⟩:=eB (l:=ls) (i:=j) oZ
  rcases oy with _ | y
  ·exact absurd rfl (hall _ (List.mem_of_getElem? hy))
  obtain ⟨o1,o2,o3⟩:=ho y (List.mem_of_getElem? hy)
  have bV:(ls.map iw)[j]? = some (ptr y.a):=by rw [List.getElem?_map,hy];rfl
  obtain ⟨A,L1,B,pU,rfl⟩:=hL.at hy
  refine gs ?_
  refine gc (KX p qs R C hC y.i y.q y.a _ L1 pU o1 o2) ?_
  rintro _ _ ⟨rfl,rfl⟩
  refine gc (vh p qs R C hC y.i y.q n y.a _ L1 pU o1 o2 o3 hn 0 0 oZ) ?_
  rintro _ _ (⟨dI,rfl,rfl⟩ | ⟨dI,g2,rfl,rfl⟩)
  ·refine gz ?_
   exact fin ⟨by rw [dI],rfl⟩ aa
  ·refine gn ?_
   exact ⟨j+1,⟨by omega,(fun _=>dI)⟩,by omega,aq,_,aa⟩
 ·obtain rfl:j=ls.length:=by omega
  refine gz ?_
  exact fin ⟨by rw [jy oZ],rfl⟩ aa
end
end Go.Proofs.YteldablklnfblaaGreatDoor
namespace Go.Sl
def ME (ring:Nat->Nat->Nat->Option Ub)(pool w:Nat)(u:Ub):Prop:=∃i k j,i<w/\k<4/\j<8/\ring i k j=some u/\u.pool=pool
def mN (ring:Nat->Nat->Nat->Option Ub)(pool w:Nat)(x:Ub):Prop:=(x=jq/\∀u,¬ME ring pool w u)\/(ME ring pool w x/\1<=x.txg/\∀u,ME ring pool w u->u.txg<=x.txg)
theorem GX {ring:Nat->Nat->Nat->Option Ub}{pool j:Nat}{x:Ub}(h:mN ring pool j x)(hn:∀u,¬ ∃k i,k<4/\i<8/\ring j k i=some u/\u.pool=pool):mN ring pool (j+1) x:=by
 have e:∀u,ME ring pool (j+1) u↔ME ring pool j u:=fun u=>⟨fun ⟨i,k,q,h1,h2,h3,h4,h5⟩=>by
  rcases (show i<j\/i=j by omega) with c | rfl
  ·exact ⟨i,k,q,c,h2,h3,h4,h5⟩
  ·exact absurd ⟨k,q,h2,h3,h4,h5⟩ (hn u),fun ⟨i,k,q,h1,h2⟩=>⟨i,k,q,by omega,h2⟩⟩
 simpa only [mN,e] using h
theorem GY {ring:Nat->Nat->Nat->Option Ub}{pool j:Nat}{x y:Ub}(h:mN ring pool j x)(hy:∃k i,k<4/\i<8/\ring j k i=some y/\y.pool=pool)(h1:1<=y.txg)(hm:∀u,(∃k i,k<4/\i<8/\ring j k i=some u/\u.pool=pool)->u.txg<=y.txg) :
  mN ring pool (j+1) (if x.txg<y.txg then y else x):=by
 have e:∀u,ME ring pool (j+1) u->ME ring pool j u\/∃k i,k<4/\i<8/\ring j k i=some u/\u.pool=pool:=fun u ⟨i,k,q,h1,h2,h3,h4,h5⟩=>by
  rcases (show i<j\/i=j by omega) with c | rfl
  ·exact .inl ⟨i,k,q,c,h2,h3,h4,h5⟩
  ·exact .inr ⟨k,q,h2,h3,h4,h5⟩
 have e1:∀u,ME ring pool j u->ME ring pool (j+1) u:=fun u ⟨i,k,q,h1,h2⟩=>⟨i,k,q,by omega,h2⟩
 obtain ⟨ky,qy,hy1⟩:=hy
 right
 split
 ·rename_i bo
  refine ⟨⟨j,ky,qy,by omega,hy1⟩,h1,fun u hu => ?_⟩
  rcases e u hu with hu | hu
  ·rcases h with ⟨-,h⟩ | ⟨-, -,h⟩
   ·exact absurd hu (h u)
   ·have:=h u hu;omega
  ·exact hm u hu
 ·rename_i xX
  rcases h with ⟨rfl,h⟩ | ⟨h2,h3,h4⟩
  ·exact absurd (show jq.txg<y.txg from h1) xX
  ·refine ⟨e1 x h2,h3,fun u hu => ?_⟩
   rcases e u hu with hu | hu
   ·exact h4 u hu
   ·have:=hm u hu;omega
end Go.Sl
namespace Go.Proofs.YteldablklnfblaaGreatDoor
open Go.Sl
set_option maxRecDepth 10000
set_option maxHeartbeats 4000000
section
variable (T:TypeId)(fr:Nat×Nat)(p:Nat)(qs:List Nat)(t pool:Nat)(tp:Tp)(pr:Bool)(n:Nat)(ls:List (Option Lv))(no:Nat)(V:Chunk)(hV:jb t pool tp pr n ls no V)(ok:dK tp pr n ls.length)(hall:∀x∈ls,x≠none)
include hV ok hall
theorem Av (R:Rk)(C:Chunk)(hC:bq p qs R C)(ho:dJ qs R n ls)(bZ:R.off=false)(ring:Nat->Nat->Nat->Option Ub)(hr:∀i x,ls[i]? = some (some x)->iN R n x.i (ring i))(U:List Ub)(hU:U.length<=19)(OX:∀i k j u,ring i k j=some u->u∈U) :
  Ct 38 [ptr t] [gK T fr,C,V] fun u Bs=>(∃x,mN ring pool ls.length x/\u = .tuple #[x.agg,.int .i64 (if x.txg=0 then 82 else 0)])/\Bs=[gK T fr,C,V]:=by
 obtain ⟨m,M,fV,cT,DT,dQ,cI,DI,jX,cL,DL,oH,cl,Dl,vD,DD,L,hT,hI,xb,hl,hM,hL,rfl⟩:=hV
 have j9:=ok.hw
 have hn:=ok.hn
 have IW:=xb.rd
 obtain ⟨gL,oL,rfl⟩:=IW.addr oZ
 have tz:=hl.rd
 obtain ⟨lQ,ol,rfl⟩:=tz.addr oZ
 have qO:[Value.slice (some ⟨lQ,ol,none⟩) ls.length cl][0]? = some (.slice (some ⟨lQ,ol,none⟩) ls.length cl):=rfl
 refine st Tryz.func38 fun w0 => ?_
 refine gs ?_
 refine ga ?_;intro b2
 refine ga ?_;intro b4
 refine gl [2,4,13,14] (fun ((j,_):Nat×Ub)=>[(15,.int .i64 j)]) (fun (_,x)=>[[(b4,ax x.lay 110)]]) (fun (j,x)=>j<=1/\(j=0->x=jq)/\(j=1->mN ring pool ls.length x)) (fun (j,_)=>1 - j) (0,jq) ⟨by omega,(fun _=>rfl),(fun h=>by cases h)⟩ ?_
 rintro ⟨j,x⟩ ⟨hj,Wi,CQ⟩
 refine gi ?_ ?_ <;> intro bo
 ·obtain rfl:j=0:=by omega
  have Wi:=Wi rfl
  subst Wi
  refine gl [2,4,13,14,15,19,20] (fun ((j,_):Nat×Ub)=>[(21,.int .i64 j)]) (fun (_,x)=>[[(b4,ax x.lay 110)]]) (fun (j,x)=>j<=ls.length/\mN ring pool j x) (fun (j,_)=>ls.length - j) (0,jq) ⟨by omega,.inl ⟨rfl,fun u ⟨i,k,j,h,_⟩=>by omega⟩⟩ ?_
  rintro ⟨j,x⟩ ⟨hj,hx⟩
  refine gi ?_ ?_ <;> intro pL
  ·obtain ⟨oy,hy⟩:=eB (l:=ls) (i:=j) oZ
   rcases oy with _ | y
   ·exact absurd rfl (hall _ (List.mem_of_getElem? hy))
   obtain ⟨o1,o2,o3⟩:=ho y (List.mem_of_getElem? hy)
   have bV:(ls.map iw)[j]? = some (ptr y.a):=by rw [List.getElem?_map,hy];rfl
   obtain ⟨A,L1,B,pU,rfl⟩:=hL.at hy
   refine gs ?_
   refine gc (Dw T fr p qs R C hC y.i y.q n y.a _ L1 pU o1 o2 bZ o3 hn (ring j) (hr j y hy) U hU (OX j)) ?_
   rintro v _ ⟨us,D,hD,hm,hs,rfl⟩
   have jw:=hD.rd
   obtain ⟨ad,c,rfl⟩:=hD.slice
   rcases us with _ | ⟨u0,us⟩
   ·have hb:mN ring pool (j+1) x:=GX hx fun u h=>absurd ((hm u).2 h) (by simp)
    have h0:([]:List Ub).length=0:=rfl
    rw [h0]
    refine gn ?_
    exact ⟨(j+1,x),⟨by omega,hb⟩,by simp only;omega,aq,_,aa⟩
   ·obtain ⟨g,off,rfl⟩:=jw.addr (by simp)
    have xp:=ar Ub.aj (u0 :: us) 0 u0 rfl
    have xu:=xp 1 _ rfl
    have jG:=(hm u0).1 (List.mem_cons_self ..)
    have Zk:∀u,(∃k i,k<4/\i<8/\ring j k i=some u/\u.pool=pool)->u.txg<=u0.txg:=fun u h=>by
     rcases List.mem_cons.1 ((hm u).2 h) with rfl | h'
     ·exact Nat.le_refl _
     ·obtain ⟨q,hq⟩:=List.mem_iff_getElem?.1 h'
      have Au:=(List.getElem?_eq_some_iff.1 hq).1
      exact hs 0 (q+1) u0 u oZ (by simp only [List.length_cons];omega) rfl hq
    have M4:1<=u0.txg:=by
     obtain ⟨k,i,h1,h2,h3, -⟩:=jG
     have:=hr j y hy k i h1 h2
     rw [h3] at this
     exact (zR this.2.1).1
    have hb:=GY hx jG M4 Zk
    have h0:(u0 :: us).length=us.length+1:=rfl
    rw [h0] at jw ⊢
    refine gi ?_ ?_ <;> intro ic
    ·rw [if_pos oZ] at hb
     refine gn ?_
     exact ⟨(j+1,u0),⟨by omega,hb⟩,by simp only;omega,aq,_,aa⟩
    ·rw [if_neg oZ] at hb
     refine gn ?_
     exact ⟨(j+1,x),⟨by omega,hb⟩,by simp only;omega,aq,_,aa⟩
  ·obtain rfl:j=ls.length:=by omega
   refine gn ?_
   exact ⟨(1,x),⟨by omega,(fun h=>by cases h),(fun _=>hx)⟩,by simp only;omega,aq,_,aa⟩
 ·obtain rfl:j=1:=by omega
  have hx:=CQ rfl
  refine gi ?_ ?_ <;> intro hz
  ·have GZ:x=jq:=by
    rcases hx with ⟨h, -⟩ | ⟨-,h, -⟩
    ·exact h
    ·simp at hz;omega
   subst GZ
   refine gz ?_
   exact fin ⟨⟨jq,hx,rfl⟩,rfl⟩ aa
  ·refine gz ?_
   exact fin ⟨⟨x,hx,by rw [if_neg (by simp at hz;omega)]⟩,rfl⟩ aa
end
end Go.Proofs.YteldablklnfblaaGreatDoor
namespace Go.Sl
def yC (R:Rk)(i z:Nat):Nat->Nat
 | 0=>z
 | k+1=>max (yC R i z k) ((if gB (R.now i (18+k)) then fv (R.now i (18+k)) else 0)+1)
def p9 (R:Rk)(ls:List (Option Lv))(z:Nat):Nat->Nat
 | 0=>z
 | j+1=>match ls[j]? with
  | some (some x)=>yC R x.i (p9 R ls z j) 256
  | _=>p9 R ls z j
theorem Aw {s:eG}(h:gB s=true):1<=fv s/\fv s<=281474976710656:=by
 unfold gB at h
 rw [Bool.and_eq_true] at h
 exact of_decide_eq_true h.2
theorem G0 {R:Rk}{i z:Nat}(h:z<=281474976710657):∀k,yC R i z k<=281474976710657
 | 0=>h
 | k+1=>by
  rw [yC]
  have:=G0 (R:=R) (i:=i) h k
  split
  ·rename_i hl
   have:=Aw hl;omega
  ·omega
theorem Px {R:Rk}{ls:List (Option Lv)}{z:Nat}(h:z<=281474976710657):∀j,p9 R ls z j<=281474976710657
 | 0=>h
 | j+1=>by
  rw [p9]
  have:=Px (R:=R) (ls:=ls) h j
  split
  ·exact G0 this _
  ·exact this
attribute [irreducible] yC p9
end Go.Sl
namespace Go.Proofs.YteldablklnfblaaGreatDoor
open Go.Sl
set_option maxRecDepth 10000
set_option maxHeartbeats 4000000
section
variable (T:TypeId)(fr:Nat×Nat)(p:Nat)(qs:List Nat)(t pool:Nat)(tp:Tp)(pr:Bool)(n:Nat)(ls:List (Option Lv))(no:Nat)(V:Chunk)(hV:jb t pool tp pr n ls no V)(ok:dK tp pr n ls.length)(hall:∀x∈ls,x≠none)
include hV ok hall
theorem KY (R:Rk)(C:Chunk)(hC:bq p qs R C)(ho:dJ qs R n ls)(bZ:R.off=false)(ring:Nat->Nat->Nat->Option Ub)(hr:∀i x,ls[i]? = some (some x)->iN R n x.i (ring i))(U:List Ub)(hU:U.length<=19)(OX:∀i k j u,ring i k j=some u->u∈U)
  (eL:∀i,i<ls.length->(∃u,ME ring pool ls.length u)->∃u k j,k<4/\j<8/\ring i k j=some u/\u.pool=pool) (eD:no<=281474976710657) :
  Ct 66 [ptr t] [gK T fr,C,V] fun _ Bs=>∃V',jb t pool tp pr n ls (p9 R ls no ls.length) V'/\Bs=[gK T fr,C,V']:=by
 have Py:=Av T fr p qs t pool tp pr n ls no V hV ok hall R C hC ho bZ ring hr U hU OX
 obtain ⟨dm,M,fV,cT,DT,dQ,cI,DI,jX,cL,DL,oH,cl,Dl,vD,DD,L,hT,hI,xb,hl,hM,hL,rfl⟩:=hV
 have hV:∀no,jb t pool tp pr n ls no ([(t,Dx pool (.slice fV 1 cT) (.slice dQ 1 cI) (.slice jX 1 cL) vD no)]++(DT++(DI++(DL++(Dl++(DD++(M++L))))))):=fun no=>⟨dm,M,fV,cT,DT,dQ,cI,DI,jX,cL,DL,oH,cl,Dl,vD,DD,L,hT,hI,xb,hl,hM,hL,rfl⟩
 have j9:=ok.hw
 have hn:=ok.hn
 have IW:=xb.rd
 obtain ⟨gL,oL,rfl⟩:=IW.addr oZ
 have tz:=hl.rd
 obtain ⟨lQ,ol,rfl⟩:=tz.addr oZ
 have qO:[Value.slice (some ⟨lQ,ol,none⟩) ls.length cl][0]? = some (.slice (some ⟨lQ,ol,none⟩) ls.length cl):=rfl
 refine st Tryz.func66 fun w0 => ?_
 refine gs ?_
 refine gc Py ?_
 rintro _ _ ⟨⟨x,hx,rfl⟩,rfl⟩
 refine gs ?_
 refine ga ?_;intro b2
 refine gl [0,2,20,21] (fun ((j,_):Nat×Nat)=>[(22,.int .i64 j)]) (fun (_,z)=>[[(t,Dx pool (.slice fV 1 cT) (.slice dQ 1 cI) (.slice (some ⟨gL,oL,none⟩) 1 cL) vD z)]]) (fun (j,z)=>j<=1/\z=p9 R ls no (j*ls.length)) (fun (j,_)=>1 - j) (0,no) ⟨by omega,by rw [Nat.zero_mul,p9]⟩ ?_
 rintro ⟨j,z⟩ ⟨hj,hz⟩
 refine gi ?_ ?_ <;> intro bo
 ·obtain rfl:j=0:=by omega
  rw [Nat.zero_mul] at hz
  refine gl [0,2,4,20,21,22,27,28] (fun ((j,_):Nat×Nat)=>[(29,.int .i64 j)]) (fun (_,z)=>[[(t,Dx pool (.slice fV 1 cT) (.slice dQ 1 cI) (.slice (some ⟨gL,oL,none⟩) 1 cL) vD z)]]) (fun (j,z)=>j<=ls.length/\z=p9 R ls no j) (fun (j,_)=>ls.length - j) (0,z) ⟨by omega,hz⟩ ?_
  rintro ⟨j,z⟩ ⟨hj,hz⟩
  refine gi ?_ ?_ <;> intro pL
  ·obtain ⟨oy,hy⟩:=eB (l:=ls) (i:=j) oZ
   rcases oy with _ | y
   ·exact absurd rfl (hall _ (List.mem_of_getElem? hy))
   obtain ⟨o1,o2,o3⟩:=ho y (List.mem_of_getElem? hy)
   have bV:(ls.map iw)[j]? = some (ptr y.a):=by rw [List.getElem?_map,hy];rfl
   have Mo:p9 R ls no (j+1)=yC R y.i (p9 R ls no j) 256:=by rw [p9,hy]
   have T4:z<=281474976710657:=by rw [hz];exact Px eD j
   obtain ⟨A,L1,B,pU,rfl⟩:=hL.at hy
   refine gs ?_
   refine gl [0,2,4,6,7,20,21,22,27,28,29] (fun ((k,_):Nat×Nat)=>[(36,.int .i64 k)]) (fun (_,z)=>[[(t,Dx pool (.slice fV 1 cT) (.slice dQ 1 cI) (.slice (some ⟨gL,oL,none⟩) 1 cL) vD z)]]) (fun (k,z')=>k<=256/\z'=yC R y.i z k) (fun (k,_)=>256 - k) (0,z) ⟨by omega,by rw [yC]⟩ ?_
   rintro ⟨k,z'⟩ ⟨hk,Pz⟩
   refine gi ?_ ?_ <;> intro aeh
   ·have afW:z'<=281474976710657:=by rw [Pz];exact G0 T4 k
    have xv:yC R y.i z (k+1)=max z' ((if gB (R.now y.i (18+k)) then fv (R.now y.i (18+k)) else 0)+1):=by rw [yC,<-Pz]
    refine gc (IE T fr p qs R C hC y.i y.q n y.a _ L1 pU o1 o2 o3 k oZ oZ) ?_
    rintro _ _ (⟨dI,rfl,rfl⟩ | ⟨dI,jk,rfl,rfl⟩ | ⟨dI,jk,g2,rfl,rfl⟩)
    ·rw [bZ] at dI;cases dI
    ·rw [if_neg (by rw [jk];simp)] at xv
     refine go ?_
     rw [show (max ((z':Nat):Int) (0+1))=((yC R y.i z (k+1):Nat):Int) by rw [xv];omega]
     refine gn ?_
     exact ⟨(k+1,yC R y.i z (k+1)),⟨by omega,rfl⟩,by simp only;omega,aq,_,aa⟩
    ·rw [if_pos jk] at xv
     have Kq:=Aw jk
     refine go ?_
     rw [show (max ((z':Nat):Int) ((fv (R.now y.i (18+k))+1:Nat):Int))=((yC R y.i z (k+1):Nat):Int) by rw [xv];omega]
     refine gn ?_
     exact ⟨(k+1,yC R y.i z (k+1)),⟨by omega,rfl⟩,by simp only;omega,aq,_,aa⟩
   ·obtain rfl:k=256:=by omega
    rw [hz,<-Mo] at Pz
    clear Mo T4 aeh hk hz
    refine gg ?_ ?_ <;> intro hg
    ·refine gc (Dw T fr p qs R C hC y.i y.q n y.a _ L1 pU o1 o2 bZ o3 hn (ring j) (hr j y hy) U hU (OX j)) ?_
     rintro v _ ⟨us,D,hD,hm,hs,rfl⟩
     obtain ⟨ad,c,rfl⟩:=hD.slice
     have Sd:us≠[]:=by
      rcases hx with ⟨rfl, -⟩ | ⟨hx, -, -⟩
      ·simp [jq] at hg
      ·obtain ⟨u,k,q,h1,h2,h3,h4⟩:=eL j oZ ⟨x,hx⟩
       exact List.ne_nil_of_mem ((hm u).2 ⟨k,q,h1,h2,h3,h4⟩)
     have zy:=List.length_pos_iff.2 Sd
     refine gn ?_
     exact ⟨(j+1,z'),⟨by omega,Pz⟩,by simp only;omega,aq,_,aa⟩
    ·refine gn ?_
     exact ⟨(j+1,z'),⟨by omega,Pz⟩,by simp only;omega,aq,_,aa⟩
  ·obtain rfl:j=ls.length:=by omega
   refine gn ?_
   exact ⟨(1,z),⟨by omega,by rw [Nat.one_mul];exact hz⟩,by simp only;omega,aq,_,aa⟩
 ·obtain rfl:j=1:=by omega
  rw [Nat.one_mul] at hz
  subst hz
  refine gz ?_
  exact fin ⟨_,hV _,rfl⟩ aa
end
set_option maxHeartbeats 2000000
theorem Uj (tp:Tp)(D1 D2:Chunk)(iK ad2:Option Addr)(c1 c2:Nat)(h1:Rd D1 3 (.slice iK 1 c1) 1 tp.lay)(h2:Rd D2 3 (.slice ad2 1 c2) 1 tp.lay):Ct 65 [.slice iK 1 c1,.slice ad2 1 c2] [D1,D2] fun u Bs=>u = .bool true/\Bs=[D1,D2]:=by
 obtain ⟨g1,o1,rfl⟩:=h1.addr oZ
 obtain ⟨g2,o2,rfl⟩:=h2.addr oZ
 have hs:Sub (0*3) tp.lay tp.lay:=ar Tp.aj [tp] 0 tp rfl
 refine st Tryz.func65 fun w0 => ?_
 refine gl [0,1,11,12] (fun j:Nat=>[(13,.int .i64 j)]) (fun _=>[]) (fun j=>j<=1) (fun j=>1 - j) 0 oZ ?_
 intro j hj
 refine gi ?_ ?_ <;> intro bo
 ·obtain rfl:j=0:=by omega
  refine gi ?_ ?_ <;> intro eL
  ·simp at eL
  ·refine gn ?_
   exact ⟨1,by omega,by omega,aq,_,aa⟩
 ·refine gz ?_
  exact fin ⟨rfl,rfl⟩ aa
theorem PA (tp:Tp)(D1:Chunk)(iK:Option Addr)(c1:Nat)(h1:Rd D1 3 (.slice iK 1 c1) 1 tp.lay):Ct 65 [.slice iK 1 c1,.slice iK 1 c1] [D1] fun u Bs=>u = .bool true/\Bs=[D1]:=by
 obtain ⟨g1,o1,rfl⟩:=h1.addr oZ
 have hs:Sub (0*3) tp.lay tp.lay:=ar Tp.aj [tp] 0 tp rfl
 refine st Tryz.func65 fun w0 => ?_
 refine gl [0,1,11,12] (fun j:Nat=>[(13,.int .i64 j)]) (fun _=>[]) (fun j=>j<=1) (fun j=>1 - j) 0 oZ ?_
 intro j hj
 refine gi ?_ ?_ <;> intro bo
 ·obtain rfl:j=0:=by omega
  refine gi ?_ ?_ <;> intro eL
  ·simp at eL
  ·refine gn ?_
   exact ⟨1,by omega,by omega,aq,_,aa⟩
 ·refine gz ?_
  exact fin ⟨rfl,rfl⟩ aa
def aei (pool:Nat)(tp:Tp)(w:Nat)(qs:List Nat)(ls:List (Option Lv))(v4:Value)(Tk DT DL Dl DD Dd:Chunk):Prop:=∃t fV cT jX cL lQ Bw cD nQ,v4=ptr t/\az DT 23 3 (.slice fV 1 cT) 1 tp.lay/\az DL 95 1 (.slice jX 1 cL) 1 [.slice (some ⟨lQ,0,none⟩) w w]/\az DD 38 1 (.slice Bw 1 cD) 1 [.slice (some ⟨nQ,0,none⟩) w w] /\
 Tk=[(t,Dx pool (.slice fV 1 cT) (.slice none 0 0) (.slice jX 1 cL) (.slice Bw 1 cD) 1)]/\Dl=[(lQ,ax (ls.map iw++List.replicate (w - ls.length) (.pointer none)) 92)]/\Dd=[(nQ,ax ((qs.take ls.length).map ptr++List.replicate (w - ls.length) (.pointer none)) 46)]
theorem KZ (T:TypeId)(fr:Nat×Nat)(p:Nat)(qs:List Nat)(pool:Nat)(tp:Tp)(pr:Bool)(n w:Nat)(ok:dK tp pr n w)(hqs:qs.length=w)(R:Rk)(C:Chunk)(hC:bq p qs R C)(bZ:R.off=false)(wh:∀k,k<w->R.live k/\R.size k=n)
  (Kq:∀k,k<w->uX ⟨pool,[tp],0,k⟩=0/\eU.Ok ⟨pool,[tp],0,k⟩) (Y0:∀k,k<w->R.now k (fC n 0)=whole (dL ⟨pool,[tp],0,k⟩)) (Q:Chunk) (jB:Option Addr) (cq:Nat) (hQ:Rd Q 1 (.slice jB w cq) w (qs.map ptr))
  (ring:Nat->Nat->Nat->Option Ub) (hr:∀k,k<w->iN R n k (ring k)) (U:List Ub) (hU:U.length<=19) (OX:∀i k j u,ring i k j=some u->u∈U) (eL:∀i,i<w->(∃u,ME ring pool w u)->∃u k j,k<4/\j<8/\ring i k j=some u/\u.pool=pool) :
  Ct 19 [.slice jB w cq] [gK T fr,C,Q] fun u Bs=>∃t V ls,u = .tuple #[ptr t,.int .i64 0]/\ls.length=w/\jK qs ls/\jb t pool tp pr n ls (p9 R ls 1 w) V/\Bs=[V,gK T fr,C,Q]:=by
 have hn:=ok.hn
 have j9:=ok.hw
 have htp:=ok.ht
 have Zq:tp.leaves=w:=by rw [htp]
 have vg:tp.bz=n:=by rw [htp]
 obtain ⟨mk,IX⟩:∃mk:Nat->eU,mk=fun k=>⟨pool,[tp],0,(k:Nat)⟩:=⟨_,rfl⟩
 obtain ⟨gq,oq,rfl⟩:=hQ.addr oZ
 refine st Tryz.func19 fun w0 => ?_
 refine gl [2,3,11,12] (fun ((j,v4,_):Nat×Value×List (Option Lv)×Chunk×Chunk×Chunk×Chunk×Chunk×Chunk×Chunk)=>[(13,.int .i64 j),(4,v4)]) (fun (_,_,_,Tk,DT,DL,Dl,DD,Dd,L)=>[Tk,DT,DL,Dl,DD,Dd,L]) (fun (j,v4,ls,Tk,DT,DL,Dl,DD,Dd,L)=>j<=w/\ls.length=j/\jK qs ls/\iy mk 0 ls L/\(j=0->v4 = .pointer none/\Tk=[]/\DT=[]/\DL=[]/\Dl=[]/\DD=[]/\Dd=[])/\(0<j->aei pool tp w qs ls v4 Tk DT DL Dl DD Dd)) (fun (j,_)=>w - j) (0,.pointer none,[],[],[],[],[],[],[],[]) ⟨by omega,rfl,(fun k hk=>absurd hk (by simp)),rfl,(fun _=>⟨rfl,rfl,rfl,rfl,rfl,rfl,rfl⟩),(fun h=>by cases h)⟩ ?_
 rintro ⟨j,v4,ls,Tk,DT,DL,Dl,DD,Dd,L⟩ ⟨hj,jk,IY,hL,h0,h1⟩
 refine gi ?_ ?_ <;> intro bo
 ·obtain ⟨q,hq⟩:=eB (l:=qs) (i:=j) oZ
  obtain ⟨tt,jj⟩:=wh j oZ
  have MC:mk j=⟨pool,[tp],0,(j:Nat)⟩:=by rw [IX]
  have mu:=TS T fr p qs R C hC j q n hq tt bZ jj hn (mk j) (by rw [MC];exact (Kq j oZ).1) (by rw [MC];exact (Kq j oZ).2) (fun t ht=>by rw [MC] at ht;simp at ht;rw [<-ht];exact vg) 0 oZ (fun k hk=>absurd hk oZ) (by rw [MC];exact Y0 j oZ)
  refine gc mu ?_
  rintro _ _ ⟨a,L1,rfl,hL1,rfl⟩
  have aej:Ct 64 [ptr a] [L1] fun u Bs=>∃ad c D,u = .agg #[.int .u64 pool,.slice ad 1 c,.int .i64 0,.int .i64 j]/\az D 23 3 (.slice ad 1 c) 1 tp.lay/\Bs=[D,L1]:=by
   have:=OZ a q (mk j) L1 hL1 (by rw [MC];simp)
   rw [MC] at this
   simpa [mE] using this
  refine gc aej ?_
  rintro _ _ ⟨afX,cD0,D,rfl,hD,rfl⟩
  have jw:=hD.rd
  obtain ⟨gD0,oD0,rfl⟩:=jw.addr oZ
  refine ga ?_;intro b9
  rcases Nat.eq_zero_or_pos j with hj0 | hj0
  ·obtain ⟨rfl,rfl,rfl,rfl,rfl,rfl,rfl⟩:=h0 hj0
   refine ga ?_;intro t
   refine gc (yB t pool tp w ⟨Zq,j9.2⟩ (some ⟨gD0,oD0,none⟩) cD0 D hD _ 1) ?_
   rintro _ _ ⟨jX,cL,DL,lQ,Bw,cD,DD,nQ,DY,Mz,rfl⟩
   have abI:ls=[]:=List.eq_nil_of_length_eq_zero oZ
   have e1:[(lQ,ax (List.replicate w (Value.pointer none)) 92)]=[(lQ,ax (ls.map iw++List.replicate (w - ls.length) (Value.pointer none)) 92)]:=by rw [abI];simp
   have e2:[(nQ,ax (List.replicate w (Value.pointer none)) 46)]=[(nQ,ax ((qs.take ls.length).map ptr++List.replicate (w - ls.length) (Value.pointer none)) 46)]:=by rw [abI];simp
   rw [e1,e2]
   have hT:=hD
   obtain ⟨cT,hcT⟩:∃c,c=cD0:=⟨_,rfl⟩
   subst hcT
   have IW:=DY.rd
   obtain ⟨gL,oL,rfl⟩:=IW.addr oZ
   have Zr:=Mz.rd
   obtain ⟨gDD,oDD,rfl⟩:=Zr.addr oZ
   have hcL:[Value.slice (some ⟨lQ,0,none⟩) w w][0]? = some (.slice (some ⟨lQ,0,none⟩) w w):=rfl
   have hcD:[Value.slice (some ⟨nQ,0,none⟩) w w][0]? = some (.slice (some ⟨nQ,0,none⟩) w w):=rfl
   have TH:(ls.map iw++List.replicate (w - ls.length) (Value.pointer none))[j]? = some (.pointer none):=by
    rw [List.getElem?_append_right (by rw [List.length_map];omega),List.length_map,jk,Nat.sub_self,List.getElem?_replicate,if_pos oZ]
   have fm:(ls.map iw++List.replicate (w - ls.length) (Value.pointer none)).set j (ptr a)=(ls++[some (⟨a,ls.length,q⟩:Lv)]).map iw++List.replicate (w - (ls++[some (⟨a,ls.length,q⟩:Lv)]).length) (.pointer none):=by
    rw [List.length_append,List.map_append,jk,nz (by rw [List.length_map,jk]) oZ];rfl
   have CP:((qs.take ls.length).map ptr++List.replicate (w - ls.length) (Value.pointer none)).set j (ptr q)=((qs.take (ls++[some (⟨a,ls.length,q⟩:Lv)]).length).map ptr++List.replicate (w - (ls++[some (⟨a,ls.length,q⟩:Lv)]).length) (.pointer none)):=by
    obtain ⟨jh,he⟩:=List.getElem?_eq_some_iff.1 hq
    rw [List.length_append,jk,nz (by rw [List.length_map,List.length_take];omega) oZ,show j+[some (⟨a,j,q⟩:Lv)].length=j+1 from rfl,List.take_succ_eq_append_getElem jh,he,List.map_append];rfl
   have abJ:(ls.map iw++List.replicate (w - ls.length) (Value.pointer none)).length=w:=by rw [List.length_append,List.length_map,List.length_replicate];omega
   have im:((qs.take ls.length).map ptr++List.replicate (w - ls.length) (Value.pointer none)).length=w:=by rw [List.length_append,List.length_map,List.length_take,List.length_replicate];omega
   refine gd [0,4,8,12,16,20,24,28,32,36,40,44,48,52,57,60,64,68,72,76,80,84,88,92,96,100,104,108,112,116,120] ?_
   refine gc (PA tp D _ _ jw) ?_
   rintro _ _ ⟨rfl,rfl⟩
   refine qM [[(t,Dx pool (.slice (some ⟨gD0,oD0,none⟩) 1 cT) (.slice none 0 0) (.slice (some ⟨gL,oL,none⟩) 1 cL) (.slice (some ⟨gDD,oDD,none⟩) 1 cD) 1)],DL,DD,[(b9,ax [.int .u64 pool,.slice (some ⟨gD0,oD0,none⟩) 1 cT,.int .i64 0,.int .i64 j] 88)]] [0,4,8,12,16,20,24,28,32,36,40,44,48,52,56,60,64,68,72,76,80,84,88,93,96,103] ?_
   refine gn ?_
   rw [fm,CP]
   exact ⟨(j+1,ptr t,ls++[some ⟨a,ls.length,q⟩],_,D,DL,_,DD,_,L++L1),⟨by omega,by rw [List.length_append,jk];rfl,IY.snoc (by rw [jk];exact hq),hL.snoc (by rw [Nat.zero_add,jk];exact hL1),(fun h=>by omega),(fun _=>⟨t,_,cT,_,cL,lQ,_,cD,nQ,rfl,hT,DY,Mz,rfl,rfl,rfl⟩)⟩,by simp only;omega,aq,_,aa⟩
  ·obtain ⟨t,fV,cT,jX,cL,lQ,Bw,cD,nQ,rfl,hT,DY,Mz,rfl,rfl,rfl⟩:=h1 hj0
   have IW:=DY.rd
   obtain ⟨gL,oL,rfl⟩:=IW.addr oZ
   have Zr:=Mz.rd
   obtain ⟨gDD,oDD,rfl⟩:=Zr.addr oZ
   have hcL:[Value.slice (some ⟨lQ,0,none⟩) w w][0]? = some (.slice (some ⟨lQ,0,none⟩) w w):=rfl
   have hcD:[Value.slice (some ⟨nQ,0,none⟩) w w][0]? = some (.slice (some ⟨nQ,0,none⟩) w w):=rfl
   have TH:(ls.map iw++List.replicate (w - ls.length) (Value.pointer none))[j]? = some (.pointer none):=by
    rw [List.getElem?_append_right (by rw [List.length_map];omega),List.length_map,jk,Nat.sub_self,List.getElem?_replicate,if_pos oZ]
   have fm:(ls.map iw++List.replicate (w - ls.length) (Value.pointer none)).set j (ptr a)=(ls++[some (⟨a,ls.length,q⟩:Lv)]).map iw++List.replicate (w - (ls++[some (⟨a,ls.length,q⟩:Lv)]).length) (.pointer none):=by
    rw [List.length_append,List.map_append,jk,nz (by rw [List.length_map,jk]) oZ];rfl
   have CP:((qs.take ls.length).map ptr++List.replicate (w - ls.length) (Value.pointer none)).set j (ptr q)=((qs.take (ls++[some (⟨a,ls.length,q⟩:Lv)]).length).map ptr++List.replicate (w - (ls++[some (⟨a,ls.length,q⟩:Lv)]).length) (.pointer none)):=by
    obtain ⟨jh,he⟩:=List.getElem?_eq_some_iff.1 hq
    rw [List.length_append,jk,nz (by rw [List.length_map,List.length_take];omega) oZ,show j+[some (⟨a,j,q⟩:Lv)].length=j+1 from rfl,List.take_succ_eq_append_getElem jh,he,List.map_append];rfl
   have abJ:(ls.map iw++List.replicate (w - ls.length) (Value.pointer none)).length=w:=by rw [List.length_append,List.length_map,List.length_replicate];omega
   have im:((qs.take ls.length).map ptr++List.replicate (w - ls.length) (Value.pointer none)).length=w:=by rw [List.length_append,List.length_map,List.length_take,List.length_replicate];omega
   refine gd [0,4,8,12,16,20,24,28,32,36,40,44,48,52,57,60,64,68,72,76,80,84,88,92,96,100,104,108,112,116,120] ?_
   refine gc (Uj tp D DT _ _ _ _ jw hT.rd) ?_
   rintro _ _ ⟨rfl,rfl⟩
   refine qM [[(t,Dx pool (.slice fV 1 cT) (.slice none 0 0) (.slice (some ⟨gL,oL,none⟩) 1 cL) (.slice (some ⟨gDD,oDD,none⟩) 1 cD) 1)],DL,DD,[(b9,ax [.int .u64 pool,.slice (some ⟨gD0,oD0,none⟩) 1 cD0,.int .i64 0,.int .i64 j] 88)]] [0,4,8,12,16,20,24,28,32,36,40,44,48,52,56,60,64,68,72,76,80,84,88,93,96,103] ?_
   refine gn ?_
   rw [fm,CP]
   exact ⟨(j+1,ptr t,ls++[some ⟨a,ls.length,q⟩],_,DT,DL,_,DD,_,L++L1),⟨by omega,by rw [List.length_append,jk];rfl,IY.snoc (by rw [jk];exact hq),hL.snoc (by rw [Nat.zero_add,jk];exact hL1),(fun h=>by omega),(fun _=>⟨t,_,cT,_,cL,lQ,_,cD,nQ,rfl,hT,DY,Mz,rfl,rfl,rfl⟩)⟩,by simp only;omega,aq,_,aa⟩
 ·obtain rfl:j=w:=by omega
  obtain ⟨t,fV,cT,jX,cL,lQ,Bw,cD,nQ,rfl,hT,DY,Mz,rfl,rfl,rfl⟩:=h1 oZ
  subst jk
  have hall:=IY.all
  have Bx:az [(lQ,ax ((ls.map iw)++List.replicate (ls.length - ls.length) (.pointer none)) 92)] 92 1 (.slice (some ⟨lQ,0,none⟩) ls.length ls.length) ls.length (ls.map iw):=⟨by simp,fun u hu=>by
   obtain ⟨o,_,rfl⟩:=List.mem_map.1 hu
   rcases o with _ | x <;> rfl,.inr ⟨lQ,ls.length,List.replicate (ls.length - ls.length) (.pointer none),rfl,rfl,by omega,by simp only [maxLen];omega,by rw [List.length_map,List.length_replicate];omega⟩⟩
  have gN:=IY.ok (R:=R) (n:=n) fun k hk=>wh k hk
  rw [IX] at hL
  have Mc:=DZ p qs t pool tp pr n ls ok hall R C L hC gN hL fV cT DT hT jX cL DL _ ls.length _ DY Bx (.slice Bw 1 cD) (DD++[(nQ,ax ((qs.take ls.length).map ptr++List.replicate (ls.length - ls.length) (.pointer none)) 46)]) 1
  refine gc Mc ?_
  rintro _ _ ⟨rfl,V,hV,rfl⟩
  have hrr:∀i x,ls[i]? = some (some x)->iN R n x.i (ring i):=fun i x hx=>by
   obtain ⟨a,q,h1,h2⟩:=IY i (List.getElem?_eq_some_iff.1 hx).1
   rw [hx] at h2;cases h2
   exact hr i (List.getElem?_eq_some_iff.1 hx).1
  refine gc (KY T fr p qs t pool tp pr n ls 1 V hV ok hall R C hC gN bZ ring hrr U hU OX eL oZ) ?_
  rintro _ _ ⟨V',R6,rfl⟩
  refine gz ?_
  exact fin ⟨t,V',ls,rfl,rfl,IY,R6,rfl⟩ aa
end Go.Proofs.YteldablklnfblaaGreatDoor
namespace Go.Sl
section
variable {β:Type}
def aH (M:List (Int×β))(q:Int):Option β:=(M.find? fun e=>e.1==q).map (·.2)
def ec:List (Int×β)->Int->β->List (Int×β)
 | [],q,v=>[(q,v)]
 | (p,u) :: L,q,v=>if p=q then (p,v) :: L else (p,u) :: ec L q v
def oN (M:List (Int×β))(q:Int):List (Int×β):=M.filter fun e=>e.1 != q
def eS (R:Value->β->Chunk->Prop):List (Int×Value)->List (Int×β)->Chunk->Prop
 | [],[],V=>V=[]
 | (q,v) :: L,(g,x) :: M,V=>q=g/\∃D V',R v x D/\eS R L M V'/\V=D++V'
 | _,_,_=>False
theorem bQ {p q:Int}{x:β}{M:List (Int×β)}(h:p≠q):aH ((p,x) :: M) q=aH M q:=by simp [aH,h]
theorem df {q:Int}{x:β}{M:List (Int×β)}:aH ((q,x) :: M) q=some x:=by simp [aH]
theorem ig (M:List (Int×β))(q p:Int)(x:β):aH (ec M q x) p=if q=p then some x else aH M p:=by
 induction M with
 | nil=>by_cases h:q=p <;> simp [ec,aH,h]
 | cons e r ih =>
  obtain ⟨k,y⟩:=e
  unfold ec
  split
  ·rename_i c;subst c
   by_cases h:k=p
   ·subst h;rw [df,if_pos rfl]
   ·rw [bQ h,if_neg h,bQ h]
  ·rename_i c
   by_cases h:k=p
   ·subst h;rw [df,if_neg (Ne.symm c),df]
   ·rw [bQ h,ih,bQ h]
theorem Ax (M:List (Int×β))(q p:Int):aH (oN M q) p=if q=p then none else aH M p:=by
 induction M with
 | nil=>simp [oN,aH]
 | cons e r ih =>
  obtain ⟨k,y⟩:=e
  unfold oN at *
  rw [List.filter_cons]
  by_cases c:k=q
  ·subst c
   rw [if_neg (by simp),ih]
   by_cases h:k=p
   ·rw [if_pos h,if_pos h]
   ·rw [if_neg h,if_neg h,bQ h]
  ·rw [if_pos (by simpa using c)]
   by_cases h:k=p
   ·subst h;rw [df,if_neg (Ne.symm c),df]
   ·rw [bQ h,ih,bQ h]
theorem aI {M:List (Int×β)}{q:Int}{x:β}(h:aH M q=some x):(q,x)∈M:=by
 unfold aH at h
 cases hf:M.find? fun e=>e.1==q with
 | none=>rw [hf] at h;cases h
 | some e =>
  rw [hf] at h
  have h1:=List.mem_of_find?_eq_some hf
  have h2:=List.find?_some hf
  simp only [beq_iff_eq] at h2
  simp only [Option.map_some,Option.some.injEq] at h
  rw [<-h2,<-h];exact h1
theorem qc {M:List (Int×β)}{q:Int}(h:aH M q=none):q∉M.map (·.1):=by
 intro hm
 obtain ⟨e,he,rfl⟩:=List.mem_map.1 hm
 simp only [aH,Option.map_eq_none_iff,List.find?_eq_none] at h
 exact h e he (by simp)
theorem eW {M:List (Int×β)}(hn:(M.map (·.1)).Nodup){q:Int}{x:β}(h:(q,x)∈M):aH M q=some x:=by
 induction M with
 | nil=>cases h
 | cons e r ih =>
  obtain ⟨k,y⟩:=e
  rw [List.map_cons,List.nodup_cons] at hn
  rcases List.mem_cons.1 h with h | h
  ·cases h;exact df
  ·rw [bQ (by rintro rfl;exact hn.1 (List.mem_map_of_mem (f:=(·.1)) h))];exact ih hn.2 h
variable {R:Value->β->Chunk->Prop}
theorem eS.keys:∀ {L:List (Int×Value)} {M:List (Int×β)} {V:Chunk},eS R L M V->M.map (·.1)=L.map (·.1)
 | [],[],_,_=>rfl
 | [],_ :: _,_,h=>h.elim
 | _ :: _,[],_,h=>h.elim
 | (q,v) :: L,(g,x) :: M,V,h=>by
  obtain ⟨rfl,D,V', -,hV,rfl⟩:=h
  simp only [List.map_cons,hV.keys]
theorem eS.look (q:Int):∀ {L:List (Int×Value)} {M:List (Int×β)} {V:Chunk},eS R L M V ->
  (jU L q=none/\aH M q=none/\∀v x D,R v x D->eS R (gM L q v) (ec M q x) (V++D)) \/
  ∃v x V1 D V2,jU L q=some v/\aH M q=some x/\V=V1++(D++V2)/\R v x D/\(∀x' D',R v x' D'->eS R L (ec M q x') (V1++(D'++V2)))/\∀v' x' D',R v' x' D'->eS R (gM L q v') (ec M q x') (V1++(D'++V2))
 | [],[],V,h=>.inl ⟨rfl,rfl,fun v x D hD=>by obtain rfl:V=[]:=h;exact ⟨rfl,D,[],hD,rfl,by simp⟩⟩
 | [],_ :: _,_,h=>h.elim
 | _ :: _,[],_,h=>h.elim
 | (p,v) :: L,(g,x) :: M,V,h=>by
  obtain ⟨rfl,D,V',hD,hV,rfl⟩:=h
  by_cases c:p=q
  ·subst c
   refine .inr ⟨v,x,[],D,V',by simp [jU],df,rfl,hD,fun x' D' eo => ?_,fun v' x' D' eo => ?_⟩
   ·simp only [ec,if_pos];exact ⟨rfl,D',V',eo,hV,rfl⟩
   ·simp only [ec,gM,if_pos];exact ⟨rfl,D',V',eo,hV,rfl⟩
  ·rcases eS.look q hV with ⟨h1,h2,h3⟩ | ⟨u,y,V1,E,V2,h1,h2,rfl,h3,h4,h5⟩
   ·refine .inl ⟨by simpa [jU,c] using h1,by rw [bQ c];exact h2,fun v' x' D' eo => ?_⟩
    simp only [gM,ec,if_neg c]
    exact ⟨rfl,D,V'++D',hD,h3 v' x' D' eo,by rw [List.append_assoc]⟩
   ·refine .inr ⟨u,y,D++V1,E,V2,by simpa [jU,c] using h1,by rw [bQ c];exact h2,by rw [List.append_assoc],h3,fun x' D' eo => ?_,fun v' x' D' eo => ?_⟩
    ·simp only [ec,if_neg c]
     exact ⟨rfl,D,_,hD,h4 x' D' eo,by rw [List.append_assoc]⟩
    ·simp only [gM,ec,if_neg c]
     exact ⟨rfl,D,_,hD,h5 v' x' D' eo,by rw [List.append_assoc]⟩
theorem eS.cut {q:Int}{v:Value}:∀ {L:List (Int×Value)} {M:List (Int×β)} {V:Chunk},eS R L M V->(L.map (·.1)).Nodup->jU L q=some v ->
  ∃x V1 D V2,aH M q=some x/\V=V1++(D++V2)/\R v x D/\eS R (iu L q) (oN M q) (V1++V2)
 | [],_,V,_,_,hl=>by simp [jU] at hl
 | _ :: _,[],V,h,_,_=>h.elim
 | (p,u) :: L,(j,y) :: M,V,h,hn,hl=>by
  obtain ⟨rfl,D,V',hD,hV,rfl⟩:=h
  rw [List.map_cons,List.nodup_cons] at hn
  by_cases c:p=q
  ·subst c
   have e:u=v:=by simpa [jU] using hl
   subst e
   refine ⟨y,[],D,V',df,rfl,hD, ?_⟩
   have h1:iu ((p,u) :: L) p=L:=by
    simp only [iu,List.filter_cons,bne_self_eq_false,Bool.false_eq_true,if_false]
    rw [List.filter_eq_self];intro e he;simpa using fun h':e.1=p=>hn.1 (by rw [<-h'];exact List.mem_map_of_mem (f:=(·.1)) he)
   have h2:oN ((p,y) :: M) p=M:=by
    simp only [oN,List.filter_cons,bne_self_eq_false,Bool.false_eq_true,if_false]
    rw [List.filter_eq_self];intro e he;simpa using fun h':e.1=p=>hn.1 (by rw [<-hV.keys,<-h'];exact List.mem_map_of_mem (f:=(·.1)) he)
   rw [h1,h2];exact hV
  ·obtain ⟨x,V1,E,V2,h1,rfl,h3,h4⟩:=eS.cut hV hn.2 (by simpa [jU,c] using hl)
   refine ⟨x,D++V1,E,V2,by rw [bQ c];exact h1,by rw [List.append_assoc],h3, ?_⟩
   have e1:iu ((p,u) :: L) q=(p,u) :: iu L q:=by simp [iu,c]
   have e2:oN ((p,y) :: M) q=(p,y) :: oN M q:=by simp [oN,c]
   rw [e1,e2]
   exact ⟨rfl,D,_,hD,h4,by rw [List.append_assoc]⟩
end
structure Ob where
 used:Bool
 size:Nat
 root:Pt
 ay:List Pt
 index:List Pt
 fresh:List (Int×List UInt8)
 clean:Bool
def Ob.slot (o:Ob):eX:=⟨o.used,o.size,o.root⟩
def aS (size i:Nat):Nat:=min 1024 (size - i*1024)
def dH (n:Nat)(b:List UInt8):List UInt8:=b.take n++List.replicate (n - b.length) 0
theorem dR (n:Nat)(b:List UInt8):(dH n b).length=n:=by simp [dH];omega
def Ob.raw (rd:Pt->List UInt8)(o:Ob)(i:Nat):List UInt8:=match aH o.fresh i with
 | some b=>b
 | none=>match o.ay[i]? with
  | some p=>if p=ah then [] else rd p
  | none=>[]
def Ob.fO (rd:Pt->List UInt8)(o:Ob)(i:Nat):List UInt8:=dH (aS o.size i) (o.raw rd i)
end Go.Sl
namespace Go.Proofs.YteldablklnfblaaGreatDoor
open Go.Sl
abbrev bR (tk:Nat)(vA:Value)(ra rd txg note:Nat):Obj:=ax [ptr tk,vA,.map (some ra),.map (some rd),.int .u64 txg,.int .u64 note,.int .i64 0] 104
abbrev xF (u:Bool)(n:Nat)(x:Pt)(vP vI:Value)(r:Nat)(cl:Bool):Obj:=ax [.bool u,.int .i64 n,.int .i64 x.top,.int .i64 x.at_,.int .i64 x.bytes,.int .u64 x.bh,.int .i64 x.kind,.int .u64 x.a,.int .u64 x.b,.int .u64 x.c,.int .u64 x.d,vP,vI,.map (some r),.bool cl] 152
def lI (v:Value)(b:List UInt8)(D:Chunk):Prop:=az D 5 1 v b.length (ak b)
def PC (v:Value)(l:List Pt)(D:Chunk):Prop:=az D 108 9 v l.length (aO l)
def WZ (a:Nat)(o:Ob)(A:Chunk):Prop:=∃jl cP DP dQ cI DI r LF CF VF,
 az DP 108 9 (.slice jl o.ay.length cP) o.ay.length (aO o.ay)/\az DI 108 9 (.slice dQ o.index.length cI) o.index.length (aO o.index) /\
 Mp r .i64 LF CF/\eS lI LF o.fresh VF/\A=[(a,xF o.used o.size o.root (.slice jl o.ay.length cP) (.slice dQ o.index.length cI) r o.clean)]++(DP++(DI++(CF++VF)))
def wi (v:Value)(o:Ob)(A:Chunk):Prop:=∃a,v=ptr a/\WZ a o A
end Go.Proofs.YteldablklnfblaaGreatDoor
namespace Go.Sl
theorem sI (pr:Bool){w:Nat}(hw:1<=w/\w<=5)(hp:pr=true->3<=w):8<=aN pr w 1024/\aN pr w 1024<=12:=by
 have h:w=1\/w=2\/w=3\/w=4\/w=5:=by omega
 cases pr
 ·simp only [aN,Bool.false_eq_true,if_false];decide
 ·have:=hp rfl
  rcases h with rfl | rfl | rfl | rfl | rfl
  ·omega
  ·omega
  ·decide
  ·decide
  ·decide
theorem iB (pr:Bool){w n:Nat}(hw:1<=w/\w<=5)(hn:324<=n/\n<=2048):1<=bD pr w n/\bD pr w n<=10240:=by
 have h:w=1\/w=2\/w=3\/w=4\/w=5:=by omega
 unfold bD
 split <;> rcases h with rfl | rfl | rfl | rfl | rfl <;> omega
end Go.Sl
namespace Go.Proofs.YteldablklnfblaaGreatDoor
open Go.Sl
set_option maxRecDepth 10000
set_option maxHeartbeats 4000000
section
variable (s t pool:Nat)(tp:Tp)(pr:Bool)(n:Nat)(ls:List (Option Lv))(no:Nat)(V:Chunk)(hV:jb t pool tp pr n ls no V)(ok:dK tp pr n ls.length)(dE:n<=2048)(vA:Value)(ra rd txg note:Nat)
theorem jC (k:Int):Ct 105 [.int .i64 k] [] fun u Bs=>u = .bool (decide (1<=k/\k<=112))/\Bs=[]:=by
 refine st Tryz.func105 fun w0 => ?_
 refine gg ?_ ?_ <;> intro h1
 ·refine gz ?_
  exact fin ⟨congrArg _ (decide_eq_decide.2 oZ),rfl⟩ aa
 ·refine gz ?_
  exact fin ⟨congrArg _ (decide_eq_false oZ).symm,rfl⟩ aa
include hV ok dE
theorem Ay:Ct 36 [ptr t] [V] fun u Bs=>∃ad c D,u = .slice ad 1 c/\az D 3 1 u 1 [.int .i64 (bD pr ls.length n:Nat)]/\Bs=[D,V]:=by
 have _:=dE
 have bu:=IP t pool tp pr n ls no V hV ok
 refine st Tryz.func36 fun w0 => ?_
 refine gc (Ad t pool tp pr n ls no V hV) ?_
 rintro _ _ ⟨ad,c,D,rfl,hD,rfl⟩
 refine gl [0,6,7] (fun ((i,v3,_):Nat×Value×Chunk)=>[(8,.int .i64 i),(3,v3)]) (fun (_,_,E)=>[E,V]) (fun (i,v3,E)=>i<=1/\(i=0->v3 = .slice none 0 0/\E=[])/\(i=1->∃ad c,v3 = .slice ad 1 c/\az E 3 1 v3 1 [.int .i64 (bD pr ls.length n:Nat)])) (fun (i,_)=>1 - i) (0,.slice none 0 0,[]) ⟨by omega,fun _=>⟨rfl,rfl⟩,fun h=>by omega⟩ ?_
 rintro ⟨i,v3,E⟩ ⟨hi,h0,h1⟩
 refine gi ?_ ?_ <;> intro bo
 ·obtain rfl:i=0:=by omega
  obtain ⟨rfl,rfl⟩:=h0 rfl
  refine gc bu ?_
  rintro _ _ ⟨rfl,rfl⟩
  refine gm ?_;intro b15
  refine gp ?_;intro fL c3 E hE
  refine gn ?_
  exact ⟨(1,_,E),⟨by omega,fun h=>by omega,fun _=>⟨fL,c3,rfl,hE⟩⟩,by simp only;omega,aq,_,aa⟩
 ·obtain rfl:i=1:=by omega
  obtain ⟨fL,c3,rfl,hE⟩:=h1 rfl
  refine gz ?_
  exact fin ⟨fL,c3,E,rfl,hE,rfl⟩ aa
theorem Zs:Ct 263 [ptr s] [[(s,bR t vA ra rd txg note)],V] fun u Bs=>∃ad c D,u = .slice ad 1 c/\az D 3 1 u 1 [.int .i64 (aN pr ls.length 1024:Nat)]/\Bs=[D,[(s,bR t vA ra rd txg note)],V]:=by
 have _:=dE
 have bu:=Ae t pool tp pr n ls no V hV ok 1024 oZ
 refine st Tryz.func263 fun w0 => ?_
 refine gc (Ad t pool tp pr n ls no V hV) ?_
 rintro _ _ ⟨ad,c,D,rfl,hD,rfl⟩
 refine gl [0,9,10] (fun ((i,v3,_):Nat×Value×Chunk)=>[(11,.int .i64 i),(3,v3)]) (fun (_,_,E)=>[E,V]) (fun (i,v3,E)=>i<=1/\(i=0->v3 = .slice none 0 0/\E=[])/\(i=1->∃ad c,v3 = .slice ad 1 c/\az E 3 1 v3 1 [.int .i64 (aN pr ls.length 1024:Nat)])) (fun (i,_)=>1 - i) (0,.slice none 0 0,[]) ⟨by omega,fun _=>⟨rfl,rfl⟩,fun h=>by omega⟩ ?_
 rintro ⟨i,v3,E⟩ ⟨hi,h0,h1⟩
 refine gi ?_ ?_ <;> intro bo
 ·obtain rfl:i=0:=by omega
  obtain ⟨rfl,rfl⟩:=h0 rfl
  refine gc bu ?_
  rintro _ _ ⟨rfl,rfl⟩
  refine gm ?_;intro b15
  refine gp ?_;intro fL c3 E hE
  refine gn ?_
  exact ⟨(1,_,E),⟨by omega,fun h=>by omega,fun _=>⟨fL,c3,rfl,hE⟩⟩,by simp only;omega,aq,_,aa⟩
 ·obtain rfl:i=1:=by omega
  obtain ⟨fL,c3,rfl,hE⟩:=h1 rfl
  refine gz ?_
  exact fin ⟨fL,c3,E,rfl,hE,rfl⟩ aa
theorem Az:Ct 37 [ptr s] [[(s,bR t vA ra rd txg note)],V] fun u Bs=>u = .int .i64 (bD pr ls.length n / aN pr ls.length 1024:Nat)/\Bs=[[(s,bR t vA ra rd txg note)],V]:=by
 have bu:=IP t pool tp pr n ls no V hV ok
 have ek:=Ae t pool tp pr n ls no V hV ok 1024 oZ
 have h1:=sI pr ok.hw ok.hp
 have h2:=iB pr ok.hw ⟨ok.hn.1,dE⟩
 have hq:bD pr ls.length n / aN pr ls.length 1024<=10240:=Nat.le_trans (Nat.div_le_self _ _) h2.2
 have aek:=Ad t pool tp pr n ls no V hV
 generalize bD pr ls.length n=z at *
 generalize aN pr ls.length 1024=d at *
 refine st Tryz.func37 fun w0 => ?_
 refine gc aek ?_
 rintro _ _ ⟨ad,c,D,rfl,hD,rfl⟩
 refine gl [0,9,10] (fun ((i,q):Nat×Nat)=>[(11,.int .i64 i),(3,.int .i64 q)]) (fun _=>[V]) (fun (i,q)=>i<=1/\q=if i=0 then 0 else z / d) (fun (i,_)=>1 - i) (0,0) ⟨by omega,rfl⟩ ?_
 rintro ⟨i,q⟩ ⟨hi,Sb⟩
 refine gi ?_ ?_ <;> intro bo
 ·obtain rfl:i=0:=by omega
  obtain rfl:q=0:=Sb
  refine gd [2,4,8,12,16,20,28,32,36,40,44,25,51,54,58,62] ?_
  refine gc bu ?_
  rintro _ _ ⟨rfl,rfl⟩
  refine gc ek ?_
  rintro _ _ ⟨rfl,rfl⟩
  refine gn ?_
  exact ⟨(1,z / d),⟨by omega,rfl⟩,by simp only;omega,aq,_,aa⟩
 ·obtain rfl:i=1:=by omega
  rw [if_neg oZ] at Sb
  subst Sb
  refine gz ?_
  exact fin ⟨rfl,rfl⟩ aa
theorem Zt:Ct 157 [ptr s] [[(s,bR t vA ra rd txg note)],V] fun u Bs=>u = .int .i64 (bD pr ls.length n / aN pr ls.length 1024 / 4 - 10:Nat)/\Bs=[[(s,bR t vA ra rd txg note)],V]:=by
 have fH:=Az s t pool tp pr n ls no V hV ok dE vA ra rd txg note
 have h2:=iB pr ok.hw ⟨ok.hn.1,dE⟩
 have hq:bD pr ls.length n / aN pr ls.length 1024<=10240:=Nat.le_trans (Nat.div_le_self _ _) h2.2
 generalize bD pr ls.length n / aN pr ls.length 1024=z at *
 refine st Tryz.func157 fun w0 => ?_
 refine gc fH ?_
 rintro _ _ ⟨rfl,rfl⟩
 have hw:IntKind.i64.wrap (((z / 4:Nat):Int) - 10)=((z / 4:Nat):Int) - 10:=IntWalk.i64_in _ oZ
 refine go ?_
 rw [show max (0:Int) (((z / 4:Nat):Int) - 10)=((z / 4 - 10:Nat):Int) by omega]
 refine gz ?_
 exact fin ⟨rfl,rfl⟩ aa
theorem I0 (x:Pt)(h0:x.top=0):Ct 70 [ptr s,x.agg] [[(s,bR t vA ra rd txg note)],V] fun u Bs=>u = .agg #[.int .i64 0,.int .i64 x.at_,.int .i64 (aN pr ls.length 1024:Nat)]/\Bs=[[(s,bR t vA ra rd txg note)],V]:=by
 have _:=dE
 have ek:=Ae t pool tp pr n ls no V hV ok 1024 oZ
 obtain ⟨a1,a2,a3,a4,a5,a6,a7,a8,a9⟩:=x
 simp only at h0
 subst h0
 refine st Tryz.func70 fun w0 => ?_
 refine ga ?_;intro b3
 refine ga ?_;intro b4
 refine qM [[(s,bR t vA ra rd txg note)],[(b3,ax [.int .i64 0,.int .i64 a2,.int .i64 a3,.int .u64 a4,.int .i64 a5,.int .u64 a6,.int .u64 a7,.int .u64 a8,.int .u64 a9] 108)]] [0,4,8,12,16,20,24,28,32,36,41,44,48,55] ?_
 refine gc ek ?_
 rintro _ _ ⟨rfl,rfl⟩
 refine gz ?_
 exact fin ⟨rfl,rfl⟩ aa
end
end Go.Proofs.YteldablklnfblaaGreatDoor
