/-
  Texts put together (11).
-/
import Derived.Test.YtcfioaeamfappaaGreatDoorZTopFull10
namespace Go.Sl
def fI:eF:=List.replicate 128 0
def Rk.add (R:Rk)(n:Nat):Rk:={ R with ds:=R.ds++[⟨List.replicate n fI,List.replicate n fI,false⟩] }
theorem Wo (n:Nat):(List.replicate n fI).flatten=List.replicate (n*128) 0:=by
 induction n with
 | zero=>rfl
 | succ n ih=>rw [List.replicate_succ,List.flatten_cons,ih,fI,List.replicate_append_replicate];congr 1;omega
def Dk.back (d:Dk):Dk:={ d with now:=d.fj }
def Rk.w6 (R:Rk):Rk:=⟨R.ds.map Dk.back,[],none,false⟩
theorem Rk.Ok.add {R:Rk}(h:R.Ok){n:Nat}(hn:n<=8192):(R.add n).Ok:=by
 have hz:∀s∈List.replicate n fI,s.length=128:=fun s hs=>by rw [(List.mem_replicate.1 hs).2];rfl
 refine ⟨fun x hx => ?_,fun x hx => ?_,fun w hw => ?_⟩
 ·rcases List.mem_append.1 hx with hx | hx
  ·exact h.len x hx
  ·obtain rfl:=List.mem_singleton.1 hx;simp;exact hn
 ·rcases List.mem_append.1 hx with hx | hx
  ·exact h.sec x hx
  ·obtain rfl:=List.mem_singleton.1 hx;exact ⟨hz,hz⟩
 ·have h1:=h.ws w hw
  refine ⟨?_,h1.2⟩
  have:(R.add n).size w.d=R.size w.d:=by
   unfold Rk.size Rk.add at *
   rcases Nat.lt_or_ge w.d R.ds.length with c | c
   ·rw [List.getElem?_append_left c]
   ·simp [c] at h1
  rw [this];exact h1.1
theorem Rk.Ok.w6 {R:Rk}(h:R.Ok):R.w6.Ok:=by
 refine ⟨fun x hx => ?_,fun x hx => ?_,fun w hw=>by cases hw⟩
 ·obtain ⟨y,hy,rfl⟩:=List.mem_map.1 hx
  have:=h.len y hy;exact ⟨rfl,by simp only [Dk.back];omega⟩
 ·obtain ⟨y,hy,rfl⟩:=List.mem_map.1 hx
  exact ⟨(h.sec y hy).1,(h.sec y hy).1⟩
end Go.Sl
namespace Go.Proofs.YtcfioaeamfappaaGreatDoor
open Go.Sl
set_option maxRecDepth 10000
theorem GF:Ct 13 [] [] fun u Bs=>∃p C,u=ptr p/\br p [] ⟨[],[],none,false⟩ C/\Bs=[C]:=by
 refine st Tryz.func13 fun w0 => ?_
 refine ga ?_;intro p
 refine gz ?_
 exact fin ⟨p,[(p,LQ (.slice none 0 0) none false 0 (.slice none 0 0))],rfl,⟨[],.slice none 0 0,.slice none 0 0,[],[],0,rfl,by simp,rfl,⟨by simp,by simp,by simp⟩,(fun n hn=>by cases hn),az.nil _ _,az.nil _ _,rfl⟩,rfl⟩ aa
theorem YX (qs:List Nat)(q:Nat){ws:List Wt}(h:∀w∈ws,w.d<qs.length):wl (qs++[q]) ws=wl qs ws:=by
 induction ws with
 | nil=>rfl
 | cons w l ih =>
  have h1:=h w (List.mem_cons_self ..)
  have h2:=ih fun t ht=>h t (List.mem_cons_of_mem _ ht)
  simp only [wl,List.flatMap_cons] at h2 ⊢
  rw [h2]
  congr 1
  simp [Wt.lay,List.getD,List.getElem?_append_left h1]
theorem O5 (p:Nat):∀ {xs:List Dq} {ds:List Dk} {x:Dq},xs.length=ds.length->x∈xs->x.q∈(rp p xs ds).map (·.1)
 | y :: xs,d :: ds,x,h,hx=>by
  rcases List.mem_cons.1 hx with rfl | hx
  ·exact List.mem_cons_self ..
  ·have:=O5 p (xs:=xs) (ds:=ds) (by simpa using h) hx
   simp only [rp,Tf];simp only [List.map_append,List.mem_append];exact .inr (.inr (.inr this))
theorem YY (p:Nat)(qs:List Nat)(R:Rk)(C:Chunk)(hC:br p qs R C)(n:Nat)(hn:1<=n/\n<=8192)(Du:qs.length<=1000):Ct 14 [ptr p,.int .i64 n] [C] fun u Bs=>∃q C',u = .tuple #[ptr q,.int .i64 0]/\br p (qs++[q]) (R.add n) C'/\Bs=[C']:=by
 obtain ⟨xs,vw,vd,Cw,Cd,z,hx,ek,hl,aQ,hlf,hw,hd,rfl⟩:=hC
 have hd':=hd
 obtain ⟨LV,dx⟩:=hn
 refine st Tryz.func14 fun w0 => ?_
 refine gs ?_
 have hz:ak (List.replicate n fI).flatten=List.replicate (n*128) (.int .u8 0):=by rw [Wo];simp [ak]
 have j4:∀w∈R.ws,w.d<qs.length:=fun w hw=>by
  have h1:=(aQ.ws w hw).1
  rcases Nat.lt_or_ge w.d R.ds.length with h2 | h2
  ·rw [<-hx,List.length_map,hl];exact h2
  ·simp [Rk.size,h2] at h1
 have key:∀(q g1 g2:Nat) (v2:Value) (C2:Chunk),q∉(rp p xs R.ds).map (·.1)->az C2 47 1 v2 (qs.length+1) (qs.map ptr++[ptr q])->br p (qs++[q]) (R.add n) ([(p,LQ vw R.left R.off z v2)]++(Cw++(C2++(rp p xs R.ds++([(q,dkO p g1 g2 n false)]++([(g1,av (List.replicate (n*128) (.int .u8 0)) 5)]++[(g2,av (List.replicate (n*128) (.int .u8 0)) 5)])))))):=fun q g1 g2 v2 C2 hq BY=>by
  refine ⟨xs++[⟨q,g1,g2⟩],vw,v2,Cw,C2,z,by simp [hx], ?_,by simp [Rk.add,hl],aQ.add dx,hlf,by show az _ _ _ _ R.ws.length (wl _ R.ws);rw [YX qs q j4];exact hw,by simpa using BY, ?_⟩
  ·rw [List.nodup_append]
   refine ⟨ek,by simp,fun a ha b hb => ?_⟩
   obtain rfl:=List.mem_singleton.1 hb
   rintro rfl
   rw [<-hx] at ha
   obtain ⟨x,Cq,rfl⟩:=List.mem_map.1 ha
   exact hq (O5 p hl Cq)
  ·simp only [Rk.add]
   rw [th p _ _ hl]
   simp [rp,hz]
 refine gdo (aA.cons (0,0) (aA.cons (1,0) (aA.cons (2,0) (aA.cons (4,0) (aA.cons (5,0) (aA.fork 3 (aA.yP [(6,1),(7,0),(8,3),(9,2)]) 6 (aA.yP [(3,1),(7,0),(8,3),(9,2)]))))))) ?_
 refine gk ?_ ?_
 all_goals
  refine gm ?_;intro g1
  refine gm ?_;intro g2
  refine ga ?_;intro q
  refine gm ?_;intro b1
  refine gp ?_;intro ad2 c2 C2 BY
  refine WO.nodup fun eV => ?_
  have hq:q∉(rp p xs R.ds).map (·.1):=JD eV (A:=[(q,_)]) (B:=rp p xs R.ds) HP q (List.mem_cons_self ..)
  refine gz ?_
  exact fin ⟨q,_,rfl,key q _ _ _ C2 hq BY,rfl⟩ aa
theorem YZ (p:Nat)(qs:List Nat)(R:Rk)(C:Chunk)(hC:br p qs R C)(Du:qs.length<=1000)(FW:R.ws.length<=900000000000):Ct 22 [ptr p,.slice none 0 0] [C] fun _ Bs=>∃C',br p qs R.w6 C'/\Bs=[C']:=by
 obtain ⟨xs,vw,vd,Cw,Cd,z,hx,hn,hl,aQ,hlf,hw,hd,rfl⟩:=hC
 have hwR:=hw.rd
 have hdR:=hd.rd
 have afE:qs.length=R.ds.length:=by rw [<-hx,List.length_map,hl]
 obtain ⟨ad,c,rfl⟩:=hw.slice
 obtain ⟨ba,c',rfl⟩:=hd.slice
 refine st Tryz.func22 fun w0 => ?_
 refine gs ?_
 refine gl [0,1,11,12] (fun i:Nat=>[(13,.int .i64 i)]) (fun _=>[]) (fun i=>i<=R.ws.length) (fun i=>R.ws.length - i) 0 (Nat.zero_le _) ?_
 intro j hj
 refine gi ?_ ?_ <;> intro bh
 ·obtain ⟨w,Ys⟩:=eB (show j<R.ws.length by omega)
  have N8:=List.mem_of_getElem? Ys
  have N7:∀w∈R.ws,w.b.length=128:=fun w hw=>(aQ.ws w hw).2
  have j3:=N6 qs N7 Ys
  have u4:=Wt.aj qs (N7 w N8)
  have fE:=Wt.bC qs w
  obtain ⟨g,off,rfl⟩:=hwR.addr oZ
  refine ga ?_;intro b6
  refine gn ?_
  exact ⟨j+1,by omega,by omega,aq,_,aa⟩
 ·refine gl [0,54,55] (fun i:Nat=>[(56,.int .i64 i)]) (fun i=>[rp p xs ((R.ds.take i).map Dk.back++R.ds.drop i)]) (fun i=>i<=R.ds.length) (fun i=>R.ds.length - i) 0 (Nat.zero_le _) ?_
  intro i hi
  refine gi ?_ ?_ <;> intro bh
  ·have jg:i<R.ds.length:=by omega
   obtain ⟨d,hd1⟩:=eB jg
   have hdm:=List.mem_of_getElem? hd1
   have sQ:=aQ.len d hdm
   have A8:=aQ.sec d hdm
   have e1:=fT A8.1
   have e2:=fT A8.2
   obtain ⟨x,Cq⟩:=eB (l:=xs) (i:=i) oZ
   have hqi:(qs.map ptr)[i]? = some (ptr x.q):=by rw [<-hx];simp [Cq]
   obtain ⟨_,hde⟩:=List.getElem?_eq_some_iff.1 hd1
   obtain ⟨uW,yc⟩:=List.getElem?_eq_some_iff.1 Cq
   have O0:∀(A:List Dk) (d':Dk),A.length=i->rp p xs (A++d' :: R.ds.drop (i+1))=rp p (xs.take i) A++Tf p x.q x.g1 x.g2 d' (rp p (xs.drop (i+1)) (R.ds.drop (i+1))):=fun A d' hA=>by
    conv=>lhs;rw [show xs=xs.take i++x :: xs.drop (i+1) by rw [<-yc,<-List.drop_eq_getElem_cons,List.take_append_drop]]
    rw [th p _ _ (by simp;omega)];rfl
   have h1:(R.ds.take i).map Dk.back++R.ds.drop i=(R.ds.take i).map Dk.back++d :: R.ds.drop (i+1):=by rw [<-hde,<-List.drop_eq_getElem_cons]
   have h2:(R.ds.take (i+1)).map Dk.back++R.ds.drop (i+1)=(R.ds.take i).map Dk.back++d.back :: R.ds.drop (i+1):=by rw [List.take_succ_eq_append_getElem jg,List.map_append,hde];simp
   have hR:Rd [(x.g1,bO d.fj)] 1 (.slice (some ⟨x.g1,0,none⟩) (d.now.length*128) (d.now.length*128)) (d.now.length*128) (ak d.fj.flatten):=aw (by rw [ai,e1];omega) (aK _) oZ _
   have zI:(ak d.now.flatten).take 0++(ak d.fj.flatten).take (min (d.now.length*128) (d.now.length*128))++(ak d.now.flatten).drop (0+min (d.now.length*128) (d.now.length*128))=ak d.fj.flatten:=by
    rw [F9 (by rw [ai,e2]) (Nat.le_refl _),List.take_of_length_le (by rw [ai,e1];omega)]
   rw [h1,O0 _ d (by simp;omega)]
   obtain ⟨g,off,rfl⟩:=hdR.addr oZ
   refine gs ?_
   refine gy ?_
   refine gn ?_
   refine ⟨i+1,by omega,by omega,aq, ?_⟩
   have hdb:Tf p x.q x.g1 x.g2 d.back (rp p (xs.drop (i+1)) (R.ds.drop (i+1)))=[(x.q,dkO p x.g1 x.g2 d.now.length d.dead)]++([(x.g1,bO d.fj)]++([(x.g2,bO d.fj)]++rp p (xs.drop (i+1)) (R.ds.drop (i+1)))):=by rw [<-sQ.1];rfl
   rw [h2,O0 _ d.back (by simp;omega),hdb]
   exact ⟨_,aa⟩
  ·obtain rfl:i=R.ds.length:=by omega
   rw [List.take_length,List.drop_length,List.append_nil]
   refine gz ?_
   exact fin ⟨[(p,LQ (.slice none 0 0) none false z (.slice ba qs.length c'))]++([]++(Cd++rp p xs (R.ds.map Dk.back))),⟨xs,.slice none 0 0,_,[],Cd,z,hx,hn,by simp [Rk.w6,hl],aQ.w6,(fun n hn=>by cases hn),az.nil _ _,hd,rfl⟩,rfl⟩ aa
end Go.Proofs.YtcfioaeamfappaaGreatDoor
namespace Go.Sl
def gB (n i:Nat)(s:eF):Nat->List Ev
 | 0=>fS i 0 (List.replicate 274 fI)
 | 1=>fS i (n - 18) (List.replicate 18 fI)
 | 2=>fS i (fA n 0) [s]
 | 3=>fS i (fA n 1) [s]
 | 4=>fS i (fA n 2) [s]
 | 5=>fS i (fA n 3) [s]
 | _=>[.f i]
def Rk.on (R:Rk):Prop:=R.left=none/\R.off=false
theorem Rk.on.ev {R:Rk}(h:R.on)(e:Ev):(R.ev e).on:=by
 obtain ⟨h1,h2⟩:=h
 cases e <;> simp [Rk.ev,h1,h2,Rk.on,Rk.put]
theorem Rk.on.run {R:Rk}(h:R.on)(l:List Ev):(R.run l).on:=by
 induction l generalizing R with
 | nil=>exact h
 | cons e l ih=>exact ih (h.ev e)
theorem Wp (m:Nat):ak (List.replicate m fI).flatten=List.replicate (m*128) (.int .u8 0):=by rw [Wo];simp [ak]
theorem Y0 (R:Rk)(n i:Nat)(s:eF){k:Nat}(h:k<=7):(R.run (upto (gB n i s) k)).ws.length<=R.ws.length+2000:=by
 have h1:=Rk.iJ R (upto (gB n i s) k)
 have h2:=cR (f:=gB n i s) (c:=274) (fun k=>by unfold gB;split <;> simp only [fm,List.length_replicate,List.length_cons,List.length_nil] <;> omega) k
 omega
end Go.Sl
namespace Go.Proofs.YtcfioaeamfappaaGreatDoor
open Go.Sl
set_option maxRecDepth 10000
set_option maxHeartbeats 2000000
def bxr (n:Nat):List Nat->Chunk
 | []=>[]
 | b :: l=>[(b,av [.int .i64 (fA n l.length)] 3)]++bxr n l
abbrev fF (b2 b6 b:Nat):Value:=.func (.func 93) #[] #[ptr b2,ptr b,ptr b6]
def w7 (b2 b6:Nat)(l:List Nat):List Value:=[.func (.func 89) #[] #[ptr b2],.func (.func 91) #[] #[ptr b2]]++l.reverse.map (fF b2 b6)
theorem Kv (T:TypeId)(fr:Nat×Nat)(p:Nat)(qs:List Nat)(R:Rk)(C:Chunk)(hC:br p qs R C)(i q n:Nat)(hq:qs[i]? = some q)(hl:R.live i)(bW:R.on)(hn:R.size i=n)(h:324<=n/\n<=8192)
  (l:eR) (he:uN l=0) (hk:l.Ok) (hs:∀t,l.aJ[l.top.toNat]? = some t->t.bz=n) (ad:Option Addr) (c:Nat) (O:Chunk) (hO:az O 23 3 (.slice ad l.aJ.length c) l.aJ.length (l.aJ.flatMap Tp.lay)) (hw:R.ws.length<=800000000000) :
  Ct 39 [ptr q,mv l (.slice ad l.aJ.length c)] [gK T fr,C,O] fun u Bs=>∃a L C',u = .tuple #[ptr a,.int .i64 0]/\Oa a q l L/\br p qs (R.run (upto (gB n i (whole (dJ l))) 7)) C'/\Bs=[L,gK T fr,C',O]:=by
 obtain ⟨hh,F0⟩:=(ia l).1 he
 obtain ⟨m1,m2,m3,m4,m5,m6⟩:=hh
 obtain ⟨tn,YI⟩:∃k:Nat,l.top=k:=⟨l.top.toNat,by omega⟩
 have JW:tn<l.aJ.length:=by omega
 have hts:=hs _ (by rw [YI,Int.toNat_natCast];exact List.getElem?_eq_getElem JW)
 have hx:=ar Tp.aj l.aJ tn _ (List.getElem?_eq_getElem JW) 2 _ rfl
 rw [hts] at hx
 have fM:(whole (dJ l)).length=128:=fP (by rw [ji];omega)
 obtain ⟨go_,oo,rfl⟩:=hO.rd.addr oZ
 have hOr:=hO.rd
 have hE:=F2 T fr O _ l _ rfl hOr hk he
 simp only [mv,YI] at hE ⊢
 refine st Tryz.func39 fun w0 => ?_
 refine ga ?_;intro b2
 refine ga ?_;intro b3
 refine gc hE ?_
 rintro _ _ ⟨g,rfl,rfl⟩
 refine ga ?_;intro b6
 refine gd [0,4,8,12,16,20,24,28,33,36] ?_
 refine gc (cM p qs R C hC i q hq) ?_
 rintro _ _ ⟨rfl,rfl⟩
 rw [hn]
 refine gm ?_;intro b8
 have hB8:az [(b8,av [.func (.func 89) #[] #[ptr b2],.func (.func 91) #[] #[ptr b2]] 112)] 112 1 (.slice (some ⟨b8,0,none⟩) 2 2) 2 (w7 b2 b6 []):=⟨rfl,by simp [w7,Value.oneCell'],.inr ⟨b8,2,[],rfl,rfl,by omega,by simp [maxLen],rfl⟩⟩
 refine gc (pJ p qs R C hC i q n hq hn h) ?_
 rintro _ _ ⟨rfl,rfl⟩
 refine gl [2,3,6,36] (fun ((k,_,v,_):Nat×List Nat×Value×Chunk×Chunk)=>[(37,.int .i64 k),(8,v)]) (fun (_,_,_,D,B)=>[D,B]) (fun (k,bs,v,D,B)=>k<=4/\bs.length=k/\B=bxr n bs/\az D 112 1 v (2+k) (w7 b2 b6 bs)) (fun (k,_)=>4 - k) (0,[],_,[(b8,av [.func (.func 89) #[] #[ptr b2],.func (.func 91) #[] #[ptr b2]] 112)],[]) ⟨by omega,rfl,rfl,hB8⟩ ?_
 rintro ⟨k,bs,v,D,B⟩ ⟨rv,cV,hBx,hD⟩
 refine gi ?_ ?_ <;> intro bh
 ·have LM:k<4:=by omega
  have Fa:=zL n LM
  refine ga ?_;intro wV
  refine gm ?_;intro b11
  refine gp ?_;intro fJ c3 C3 ka
  have ka:az C3 112 1 (.slice fJ (2+k+1) c3) (2+k+1) (w7 b2 b6 (wV :: bs)):=by simpa [w7] using ka
  refine gn ?_
  exact ⟨(k+1,wV :: bs,_,C3,[(wV,av [.int .i64 (fA n k)] 3)]++B),⟨by omega,by simp [cV],by rw [hBx,bxr,cV],ka⟩,by simp only;omega,aq,_,aa⟩
 ·obtain rfl:k=4:=by omega
  obtain ⟨x3,x2,x1,x0,rfl⟩:∃a b c d,bs=[a,b,c,d]:=by
   rcases bs with _ | ⟨x3,_ | ⟨x2,_ | ⟨x1,_ | ⟨x0,_ | ⟨y,r⟩⟩⟩⟩⟩ <;> simp at cV
   exact ⟨_,_,_,_,rfl⟩
  have hBx:B=[(x3,av [.int .i64 (fA n 3)] 3)]++([(x2,av [.int .i64 (fA n 2)] 3)]++([(x1,av [.int .i64 (fA n 1)] 3)]++([(x0,av [.int .i64 (fA n 0)] 3)]++[]))):=hBx
  subst hBx
  refine gs ?_
  refine gm ?_;intro b11
  refine gp ?_;intro fJ c3 C3 ka
  have ka:az C3 112 1 (.slice fJ 7 c3) 7 [.func (.func 89) #[] #[ptr b2],.func (.func 91) #[] #[ptr b2],fF b2 b6 x0,fF b2 b6 x1,fF b2 b6 x2,fF b2 b6 x3,.func (.func 94) #[ptr q] #[]]:=ka
  obtain ⟨gs',os',rfl⟩:=ka.rd.addr oZ
  have Fb:=ka.rd
  obtain ⟨s,J4⟩:∃s,s=whole (dJ l):=⟨_,rfl⟩
  rw [<-J4] at fM ⊢
  have hg:Rd [(g,av (ak s) 5)] 1 (.slice (some ⟨g,0,none⟩) (1*128) 128) (1*128) (ak ([s]:List eF).flatten):=by
   rw [show ([s]:List eF).flatten=s by simp];exact aw (by rw [ai,fM]) (aK _) oZ _
  obtain ⟨Q,hQ⟩:∃Q:Nat->Rk,Q=fun k=>R.run (upto (gB n i s) k):=⟨_,rfl⟩
  have q0:Q 0=R:=by rw [hQ];rfl
  have qs1:∀k,Q (k+1)=(Q k).run (gB n i s k):=fun k=>by rw [hQ];exact dO ..
  have qw:∀k,k<=7->(Q k).ws.length<=R.ws.length+2000:=fun k hk=>by rw [hQ];exact Y0 R n i s hk
  have ql:∀k,(Q k).live i:=fun k=>by rw [hQ];exact (Rk.eh _ _ _).2 hl
  have qn:∀k,(Q k).size i=n:=fun k=>by rw [hQ];exact (Rk.dj _ _ _).trans hn
  have qo:∀k,(Q k).off=false:=fun k=>by rw [hQ];exact (bW.run _).2
  rw [show R.run (upto (gB n i s) 7)=Q 7 by rw [hQ]]
  rw [<-q0] at hC
  clear hQ q0
  have q00:Q 1=(Q 0).run (fS i 0 (List.replicate 274 fI)):=qs1 0
  have q01:Q 2=(Q 1).run (fS i (n - 18) (List.replicate 18 fI)):=qs1 1
  have q06:Q 7=(Q 6).ev (.f i):=qs1 6
  have nF:∀(k:Nat) (C:Chunk),k<4->br p qs ((Q (k+2))) C->Ct 90 [ptr q,.int .i64 (fA n k),.slice (some ⟨g,0,none⟩) (1*128) 128] [C,[(g,av (ak s) 5)]] fun u Bs=>∃C',u = .int .i64 0/\br p qs ((Q (k+3))) C'/\Bs=[C',[(g,av (ak s) 5)]]:=fun k C hk hC=>by
   have mj:=zK (k:=k) h.1
   have R4:=qw (k+2) oZ
   have:=kE p qs _ C hC i q (fA n k) 1 [s] [(g,av (ak s) 5)] (some ⟨g,0,none⟩) 128 hq (ql _) (by simp [fM]) rfl (by rw [qn];omega) hg oZ oZ
   have hf:gB n i s (k+2)=fS i (fA n k) [s]:=by rcases (show k=0\/k=1\/k=2\/k=3 by omega) with rfl | rfl | rfl | rfl <;> rfl
   rw [<-hf,<-qs1,qo] at this
   exact this
  refine gl [2,3,50,51] (fun ((k,_):Nat×Chunk)=>[(52,.int .i64 k)]) (fun (_,C)=>[C]) (fun (k,C)=>k<=7/\br p qs (Q k) C) (fun (k,_)=>7 - k) (0,C) ⟨by omega,hC⟩ ?_
  rintro ⟨k,C⟩ ⟨hk7,hC⟩
  refine gi ?_ ?_ <;> intro bh
  ·have R4:=qw k hk7
   have gM:=ql k
   have aQ:=qo (k+1)
   have Dv:∀C',br p qs (Q (k+1)) C'->k+1<=7/\br p qs (Q (k+1)) C':=fun C' bA=>⟨by omega,bA⟩
   rcases (show k=0\/k=1\/k=2\/k=3\/k=4\/k=5\/k=6 by omega) with rfl | rfl | rfl | rfl | rfl | rfl | rfl
   ·refine ge ?_
    refine gd [0,5,11,14] ?_
    refine gm ?_;intro Kw
    have hz:Rd [(Kw,av (List.replicate 35072 (.int .u8 0)) 5)] 1 (.slice (some ⟨Kw,0,none⟩) (274*128) 35072) (274*128) (ak (List.replicate 274 fI).flatten):=by
     rw [Wp];exact aw (by rw [List.length_replicate]) (fun u hu=>by rw [(List.mem_replicate.1 hu).2];rfl) oZ _
    refine gc (kE p qs _ C hC i q 0 274 (List.replicate 274 fI) _ _ 35072 hq gM (fun s hs=>by rw [(List.mem_replicate.1 hs).2];rfl) List.length_replicate (by rw [qn];omega) hz oZ oZ) ?_
    rintro _ _ ⟨C',rfl,bA,rfl⟩
    rw [<-q00] at bA ⊢
    rw [qo]
    refine gn ?_
    exact ⟨(1,C'),Dv C' bA,by simp only;omega,aq,_,aa⟩
   ·refine ge ?_
    refine gdo (aA.cons (0,0) (aA.cons (1,0) (aA.fork 2 (aA.yP [(3,0),(4,1),(5,3),(6,2)]) 4 (aA.yP [(2,1),(3,0),(5,3),(6,2)])))) ?_
    have Yx:∀Kw,Ct 90 [ptr q,.int .i64 ((n - 18:Nat):Int),.slice (some ⟨Kw,0,none⟩) (18*128) 2304] [C,[(Kw,av (List.replicate 2304 (.int .u8 0)) 5)]] fun u Bs=>∃C',u = .int .i64 0/\br p qs (Q 2) C'/\Bs=[C',[(Kw,av (List.replicate 2304 (.int .u8 0)) 5)]]:=fun Kw=>by
     have hz:Rd [(Kw,av (List.replicate 2304 (.int .u8 0)) 5)] 1 (.slice (some ⟨Kw,0,none⟩) (18*128) 2304) (18*128) (ak (List.replicate 18 fI).flatten):=by
      rw [Wp];exact aw (by rw [List.length_replicate]) (fun u hu=>by rw [(List.mem_replicate.1 hu).2];rfl) oZ _
     have:=kE p qs _ C hC i q (n - 18) 18 (List.replicate 18 fI) _ _ 2304 hq gM (fun s hs=>by rw [(List.mem_replicate.1 hs).2];rfl) List.length_replicate (by rw [qn];omega) hz oZ oZ
     rw [<-q01,qo] at this
     exact this
    refine gk ?_ ?_
    ·refine gc (cM p qs _ C hC i q hq) ?_
     rintro _ _ ⟨rfl,rfl⟩
     rw [qn]
     refine gm ?_;intro Kw
     refine gc (Yx Kw) ?_
     rintro _ _ ⟨C',rfl,bA,rfl⟩
     refine gn ?_
     exact ⟨(2,C'),Dv C' bA,by simp only;omega,aq,_,aa⟩
    ·refine gm ?_;intro Kw
     refine gc (cM p qs _ C hC i q hq) ?_
     rintro _ _ ⟨rfl,rfl⟩
     rw [qn]
     refine gc (Yx Kw) ?_
     rintro _ _ ⟨C',rfl,bA,rfl⟩
     refine gn ?_
     exact ⟨(2,C'),Dv C' bA,by simp only;omega,aq,_,aa⟩
   ·refine ge ?_
    refine gc (nF 0 C oZ hC) ?_
    rintro _ _ ⟨C',rfl,bA,rfl⟩
    refine gn ?_
    exact ⟨(3,C'),Dv C' bA,by simp only;omega,aq,_,aa⟩
   ·refine ge ?_
    refine gc (nF 1 C oZ hC) ?_
    rintro _ _ ⟨C',rfl,bA,rfl⟩
    refine gn ?_
    exact ⟨(4,C'),Dv C' bA,by simp only;omega,aq,_,aa⟩
   ·refine ge ?_
    refine gc (nF 2 C oZ hC) ?_
    rintro _ _ ⟨C',rfl,bA,rfl⟩
    refine gn ?_
    exact ⟨(5,C'),Dv C' bA,by simp only;omega,aq,_,aa⟩
   ·refine ge ?_
    refine gc (nF 3 C oZ hC) ?_
    rintro _ _ ⟨C',rfl,bA,rfl⟩
    refine gn ?_
    exact ⟨(6,C'),Dv C' bA,by simp only;omega,aq,_,aa⟩
   ·refine gc (CB p qs _ C hC i q hq gM) ?_
    rintro _ _ ⟨C',rfl,bA,rfl⟩
    rw [<-q06] at bA ⊢
    rw [qo]
    refine gn ?_
    exact ⟨(7,C'),Dv C' bA,by simp only;omega,aq,_,aa⟩
  ·obtain rfl:k=7:=by omega
   refine gc (lz O _ _ c _ hO ⟨by omega,by omega⟩) ?_
   rintro _ _ ⟨ba,c',D',rfl,eo,rfl⟩
   refine ga ?_;intro a
   refine gz ?_
   exact fin ⟨a,[(a,V7 q l (.slice ba l.aJ.length c') 0 0 0)]++D',_,rfl,⟨_,c',D',0,0,0,eo,rfl⟩,hC,rfl⟩ (by simp only [V7,YI];exact aa)
set_option maxHeartbeats 4000000
theorem br.nodup {p:Nat}{qs:List Nat}{R:Rk}{C:Chunk}(h:br p qs R C):qs.Nodup:=by obtain ⟨xs,vw,vd,Cw,Cd,z, -,h, -⟩:=h;exact h
theorem br.pb {p:Nat}{qs:List Nat}{R:Rk}{C:Chunk}(h:br p qs R C){i j:Nat}(hi:i∈qs)(hj:j∈qs):PB C i j:=by
 obtain ⟨xs,vw,vd,Cw,Cd,z,rfl, -,hl, -, -, -, -,rfl⟩:=h
 have hb:∀q,q∈xs.map (·.q)->JC ([(p,LQ vw R.left R.off z vd)]++(Cw++(Cd++rp p xs R.ds))) q:=fun q hq=>by
  obtain ⟨x,hx,rfl⟩:=List.mem_map.1 hq
  obtain ⟨l,T,h⟩:=tj p hl hx
  exact ⟨l,T,List.mem_append_right _ (List.mem_append_right _ (List.mem_append_right _ h))⟩
 exact .inr ⟨hb i hi,hb j hj⟩
theorem Dw (p:Nat)(qs:List Nat)(R:Rk)(C:Chunk)(hC:br p qs R C)(k q:Nat)(hk:qs[k]? = some q)(Q:Chunk)(ad:Option Addr)(m c:Nat)(hm:m<=1000)(hQ:Rd Q 1 (.slice ad m c) m ((qs.drop (k+1)).map ptr)) :
  Ct 37 [.slice ad m c,ptr q] [C,Q] fun u Bs=>u = .bool false/\Bs=[C,Q]:=by
 have hl:(qs.drop (k+1)).length=m:=by have:=hQ.1;simpa using this
 refine st Tryz.func37 fun w0 => ?_
 refine ge ?_
 refine gl [0,1,6,7] (fun j:Nat=>[(8,.int .i64 j)]) (fun _=>[]) (fun j=>j<=m) (fun j=>m - j) 0 oZ ?_
 intro j hj
 refine gi ?_ ?_ <;> intro bh
 ·obtain ⟨x,hx⟩:=eB (l:=qs.drop (k+1)) (i:=j) oZ
  have bV:((qs.drop (k+1)).map ptr)[j]? = some (ptr x):=by rw [List.getElem?_map,hx];rfl
  have yi:qs[k+1+j]? = some x:=by rw [List.getElem?_drop] at hx;exact hx
  have hpb:=hC.pb (List.mem_of_getElem? hk) (List.mem_of_getElem? yi)
  have eP:q≠x:=fun h=>by
   subst h
   have:=hC.nodup
   obtain ⟨h1,e1⟩:=List.getElem?_eq_some_iff.1 hk
   obtain ⟨h2,e2⟩:=List.getElem?_eq_some_iff.1 yi
   have:=(List.getElem_inj this).1 (e1.trans e2.symm)
   omega
  obtain ⟨g,off,rfl⟩:=hQ.addr oZ
  refine gn ?_
  exact ⟨j+1,by omega,by omega,aq,_,aa⟩
 ·refine gz ?_
  exact fin ⟨rfl,rfl⟩ aa
end Go.Proofs.YtcfioaeamfappaaGreatDoor
namespace Go.Sl
theorem nq {α:Type}{A:List α}{z v:α}{w j:Nat}(hA:A.length=j)(hj:j<w):(A++List.replicate (w - j) z).set j v=(A++[v])++List.replicate (w - (j+1)) z:=by
 obtain ⟨r,hr⟩:∃r,w - j=r+1:=⟨w - j - 1,by omega⟩
 rw [hr,show w - (j+1)=r by omega,List.replicate_succ]
 subst hA
 simp
def qI (n:Nat)(lb:Nat->eR)(k:Nat):List Ev:=upto (gB n k (whole (dJ (lb k)))) 7
def j7 (qs:List Nat)(ls:List (Option Lv)):Prop:=∀k,k<ls.length->∃a q,qs[k]? = some q/\ls[k]? = some (some ⟨a,k,q⟩)
theorem j7.snoc {qs:List Nat}{ls:List (Option Lv)}(h:j7 qs ls){a q:Nat}(hq:qs[ls.length]? = some q):j7 qs (ls++[some (⟨a,ls.length,q⟩:Lv)]):=fun k hk=>by
 rw [List.length_append] at hk
 rcases (show k<ls.length\/k=ls.length by simp at hk;omega) with c | rfl
 ·obtain ⟨a',q',h1,h2⟩:=h k c
  exact ⟨a',q',h1,by rw [List.getElem?_append_left c];exact h2⟩
 ·exact ⟨a,q,hq,by simp⟩
theorem j7.all {qs:List Nat}{ls:List (Option Lv)}(h:j7 qs ls):∀x∈ls,x≠none:=fun x hx=>by
 obtain ⟨k,hk⟩:=List.mem_iff_getElem?.1 hx
 obtain ⟨a,q, -,h2⟩:=h k (List.getElem?_eq_some_iff.1 hk).1
 rw [hk] at h2;cases h2;simp
theorem j7.ok {qs:List Nat}{ls:List (Option Lv)}(h:j7 qs ls){R:Rk}{n:Nat}(hl:∀k,k<ls.length->R.live k/\R.size k=n):dI qs R n ls:=fun x hx=>by
 obtain ⟨k,hk⟩:=List.mem_iff_getElem?.1 hx
 have lV:=(List.getElem?_eq_some_iff.1 hk).1
 obtain ⟨a,q,h1,h2⟩:=h k lV
 rw [hk] at h2;cases h2
 exact ⟨h1,hl k lV⟩
end Go.Sl
namespace Go.Proofs.YtcfioaeamfappaaGreatDoor
open Go.Sl
set_option maxRecDepth 10000
set_option maxHeartbeats 2000000
theorem iw.snoc {mk:Nat->eR}{x:Lv}{L1:Chunk}:∀ {ls:List (Option Lv)} {k0:Nat} {L:Chunk},iw mk k0 ls L->Oa x.a x.q (mk (k0+ls.length)) L1->iw mk k0 (ls++[some x]) (L++L1)
 | [],k0,L,h,h1=>by
  obtain rfl:L=[]:=h
  exact ⟨L1,[],h1,rfl,by simp⟩
 | none :: ls,k0,L,h,h1=>iw.snoc (ls:=ls) (k0:=k0+1) (L:=L) h (by rw [show k0+1+ls.length=k0+(none :: ls).length by simp only [List.length_cons];omega];exact h1)
 | some y :: ls,k0,L,⟨A,B,h2,h3,h4⟩,h1=>by
  refine ⟨A,B++L1,h2,iw.snoc (ls:=ls) (k0:=k0+1) (L:=B) h3 (by rw [show k0+1+ls.length=k0+(some y :: ls).length by simp only [List.length_cons];omega];exact h1),by rw [h4,List.append_assoc]⟩
theorem Kx (T:TypeId)(fr:Nat×Nat)(p:Nat)(qs:List Nat)(pool:Nat)(tp:Tp)(pr:Bool)(n w:Nat)(ok:dE tp pr n w)(hqs:qs.length=w)(R:Rk)(C:Chunk)(hC:br p qs R C)(bW:R.on)(vV:∀k,k<w->R.live k/\R.size k=n)
  (LU:∀k,k<w->uN ⟨pool,[tp],0,k⟩=0/\eR.Ok ⟨pool,[tp],0,k⟩) (hw0:R.ws.length<=700000000000) (O:Chunk) (Is:Option Addr) (co:Nat) (hO:az O 23 3 (.slice Is 1 co) 1 tp.lay) (Q:Chunk) (lC:Option Addr) (cq:Nat) (hQ:Rd Q 1 (.slice lC w cq) w (qs.map ptr)) (hcq:w<=cq) :
  Ct 15 [.int .u64 pool,.slice Is 1 co,.slice lC w cq] [gK T fr,C,O,Q] fun u Bs=>∃t V ls C',u = .tuple #[ptr t,.int .i64 0]/\ls.length=w/\j7 qs ls/\jd t pool tp pr n ls 1 V/\br p qs (R.run (upto (qI n fun k=>⟨pool,[tp],0,k⟩) w)) C'/\Bs=[V,gK T fr,C',O,Q]:=by
 have hn:=ok.hn
 have j4:=ok.hw
 have htp:=ok.ht
 have Y1:tp.leaves=w:=by rw [htp]
 have u3:tp.bz=n:=by rw [htp]
 refine st Tryz.func15 fun w0 => ?_
 refine gc (lz O Is 1 co _ hO oZ) ?_
 rintro _ _ ⟨fU,cT,DT,rfl,hT,rfl⟩
 refine ga ?_;intro t
 refine gc (yo t pool fU 1 cT _ _ _ _ 0 0) ?_
 rintro _ _ ⟨rfl,rfl⟩
 have Cj:=re DT (.slice fU 1 cT) ⟨pool,[tp],0,0⟩ 1 rfl (by simpa using hT.rd)
 rw [show uN ⟨pool,[tp],0,0⟩=0 from (LU 0 oZ).1] at Cj
 refine gc Cj ?_
 rintro _ _ ⟨rfl,rfl⟩
 refine gc (yp t pool tp w ⟨Y1,j4.2⟩ fU cT DT hT _ 1) ?_
 rintro _ _ ⟨jS,cL,DL,lL,Be,cD,DD,nK,Dp,L8,rfl⟩
 have hTr:=hT.rd
 obtain ⟨gT,oT,rfl⟩:=hTr.addr oZ
 have jq:=L8.rd
 obtain ⟨gD,oD,rfl⟩:=jq.addr oZ
 have ID:=Dp.rd
 obtain ⟨gL,oL,rfl⟩:=ID.addr oZ
 have hsT:Sub (0*3) tp.lay tp.lay:=ar Tp.aj [tp] 0 tp rfl
 have hcD:[Value.slice (some ⟨nK,0,none⟩) w w][0]? = some (.slice (some ⟨nK,0,none⟩) w w):=rfl
 have hcL:[Value.slice (some ⟨lL,0,none⟩) w w][0]? = some (.slice (some ⟨lL,0,none⟩) w w):=rfl
 rw [show List.replicate w (Value.pointer none)=((qs.take 0).map ptr)++List.replicate (w - 0) (Value.pointer none) by simp]
 refine gl [6,7,8,35,36] (fun ((j,d,ad,c):Nat×Nat×Option Addr×Nat)=>[(37,.int .i64 j),(9,.slice ad (w - d) c)]) (fun (_,d,_)=>[[(nK,av (((qs.take d).map ptr)++List.replicate (w - d) (.pointer none)) 47)]]) (fun (j,d,ad,c)=>j<=1/\d=j*w/\w - d<=c/\Rd Q 1 (.slice ad (w - d) c) (w - d) ((qs.drop d).map ptr)) (fun (j,_)=>1 - j) (0,0,lC,cq) ⟨by omega,by omega,by omega,by rw [List.drop_zero];exact hQ⟩ ?_
 rintro ⟨j,d,ad,c⟩ ⟨hj,hd,hc,hQ⟩
 refine gi ?_ ?_ <;> intro bh
 ·obtain rfl:j=0:=by omega
  rw [Nat.zero_mul] at hd
  refine ga ?_;intro b11
  refine gl [6,7,8,10,11,35,36,37,43] (fun ((d,ad,c):Nat×Option Addr×Nat)=>[(44,.int .i64 d),(9,.slice ad (w - d) c)]) (fun (d,_)=>[[(nK,av (((qs.take d).map ptr)++List.replicate (w - d) (.pointer none)) 47)]]) (fun (d,ad,c)=>d<=w/\w - d<=c/\Rd Q 1 (.slice ad (w - d) c) (w - d) ((qs.drop d).map ptr)) (fun (d,_)=>w - d) (d,ad,c) ⟨by omega,hc,hQ⟩ ?_
  rintro ⟨d,ad,c⟩ ⟨hdw,hc,hQ⟩
  refine gi ?_ ?_ <;> intro pD
  ·obtain ⟨q,hq⟩:=eB (l:=qs) (i:=d) oZ
   obtain ⟨gq,oq,rfl⟩:=hQ.addr oZ
   have RK:((qs.drop d).map ptr)[0]? = some (ptr q):=by rw [List.getElem?_map,List.getElem?_drop,Nat.add_zero,hq];rfl
   have LV:w - d - 1=w - (d+1):=by omega
   have nZ:(((qs.drop d).map ptr).drop (1*1)).take ((w - d - 1)*1)=(qs.drop (d+1)).map ptr:=by
    rw [Nat.mul_one,Nat.mul_one,<-List.map_drop,List.drop_drop,List.take_of_length_le (by rw [List.length_map,List.length_drop];omega)]
   have eQ:(((qs.take d).map ptr)++List.replicate (w - d) (Value.pointer none)).set d (ptr q)=((qs.take (d+1)).map ptr)++List.replicate (w - (d+1)) (.pointer none):=by
    obtain ⟨jg,he⟩:=List.getElem?_eq_some_iff.1 hq
    rw [nq (by rw [List.length_map,List.length_take];omega) oZ,List.take_succ_eq_append_getElem jg,he,List.map_append];rfl
   have ae7:(((qs.take d).map ptr)++List.replicate (w - d) (Value.pointer none)).length=w:=by rw [List.length_append,List.length_map,List.length_take,List.length_replicate];omega
   have bx:=(vV d oZ).2
   refine gd [0,4,8,12,16,20,24,28,32,36,40,44,48,52,56,61,64,68,72,76,80,88,92,85,96,100] ?_
   refine gw ?_;intro fJ hQ3
   refine gc (Dw p qs R C hC d q hq Q _ _ _ oZ hQ3) ?_
   rintro _ _ ⟨rfl,rfl⟩
   refine gc (cM p qs R C hC d q hq) ?_
   rintro _ _ ⟨rfl,rfl⟩
   rw [bx]
   refine gd [0,4,8,12,16,20,24,28,32,36,40,46,50,52,59,62] ?_
   refine gw ?_;intro rf hQ5
   refine gn ?_
   rw [eQ]
   exact ⟨(d+1,rf,c - 1),⟨by omega,by omega,hQ5⟩,by simp only;omega,aq,_,aa⟩
  ·obtain rfl:d=w:=by omega
   refine gn ?_
   exact ⟨(1,d,ad,c),⟨by omega,by omega,hc,hQ⟩,by simp only;omega,aq,_,aa⟩
 ·obtain rfl:j=1:=by omega
  rw [Nat.one_mul] at hd
  subst hd
  rw [show (qs.take d).map ptr++List.replicate (d - d) (Value.pointer none)=qs.map ptr by rw [Nat.sub_self,List.replicate_zero,List.append_nil,List.take_of_length_le oZ]]
  obtain ⟨mk,IE⟩:∃mk:Nat->eR,mk=fun k=>⟨pool,[tp],0,(k:Nat)⟩:=⟨_,rfl⟩
  rw [<-IE]
  rw [show List.map ptr (List.take 0 qs)++List.replicate (d - 0) (Value.pointer none)=(([]:List (Option Lv)).map iv)++List.replicate (d - ([]:List (Option Lv)).length) (Value.pointer none) by simp]
  refine gl [6,7,8,95,96] (fun ((j,_):Nat×List (Option Lv)×Chunk×Chunk)=>[(97,.int .i64 j)]) (fun (_,ls,C,L)=>[[(lL,av ((ls.map iv)++List.replicate (d - ls.length) (.pointer none)) 108)],C,L]) (fun (j,ls,C,L)=>j<=1/\ls.length=j*d/\j7 qs ls/\iw mk 0 ls L/\br p qs (R.run (upto (qI n mk) ls.length)) C) (fun (j,_)=>1 - j) (0,[],C,[]) ⟨by omega,by simp,(fun k hk=>absurd hk (by simp)),rfl,hC⟩ ?_
  rintro ⟨j,ls,C,L⟩ ⟨hj,jw,IF,hL,hC⟩
  refine gi ?_ ?_ <;> intro bh
  ·obtain rfl:j=0:=by omega
   rw [Nat.zero_mul] at jw
   refine gl [6,7,8,13,95,96,97,102,103] (fun ((j,_):Nat×List (Option Lv)×Chunk×Chunk)=>[(104,.int .i64 j)]) (fun (_,ls,C,L)=>[[(lL,av ((ls.map iv)++List.replicate (d - ls.length) (.pointer none)) 108)],C,L]) (fun (j,ls,C,L)=>j<=d/\ls.length=j/\j7 qs ls/\iw mk 0 ls L/\br p qs (R.run (upto (qI n mk) ls.length)) C) (fun (j,_)=>d - j) (0,ls,C,L) ⟨by omega,jw,IF,hL,hC⟩ ?_
   rintro ⟨j,ls,C,L⟩ ⟨hj,jw,IF,hL,hC⟩
   refine gi ?_ ?_ <;> intro pD
   ·obtain ⟨q,hq⟩:=eB (l:=qs) (i:=j) oZ
    obtain ⟨s7,jc⟩:=vV j oZ
    have Ma:mk j=⟨pool,[tp],0,(j:Nat)⟩:=by rw [IE]
    have afF:=Rk.iJ R (upto (qI n mk) ls.length)
    have hb2:(R.run (upto (qI n mk) ls.length)).ws.length<=R.ws.length+ls.length*2000:=by
     have h1:=cR (f:=qI n mk) (c:=2000) (fun k=>by
      have:=cR (f:=gB n k (whole (dJ (mk k)))) (c:=274) (fun k=>by unfold gB;split <;> simp only [fm,List.length_replicate,List.length_cons,List.length_nil] <;> omega) 7
      unfold qI;omega) ls.length
     omega
    have Mb:=Kv T fr p qs _ C hC j q n hq ((Rk.eh ..).2 s7) (bW.run _) (by rw [Rk.dj,jc]) hn (mk j) (by rw [Ma];exact (LU j oZ).1) (by rw [Ma];exact (LU j oZ).2)
     (fun t ht=>by rw [Ma] at ht;simp at ht;rw [<-ht];exact u3) (some ⟨gT,oT,none⟩) cT DT (by rw [Ma];simpa using hT) oZ
    have hlg:mv (mk j) (.slice (some ⟨gT,oT,none⟩) (mk j).aJ.length cT) = .agg #[.int .u64 pool,.slice (some ⟨gT,oT,none⟩) 1 cT,.int .i64 0,.int .i64 j]:=by rw [Ma];rfl
    rw [hlg] at Mb
    have dC:(R.run (upto (qI n mk) ls.length)).run (upto (gB n j (whole (dJ (mk j)))) 7)=R.run (upto (qI n mk) (ls.length+1)):=by rw [dO R (qI n mk) ls.length,jw];rfl
    rw [dC] at Mb
    refine gc (yo t pool (some ⟨gT,oT,none⟩) 1 cT _ _ _ _ 0 j) ?_
    rintro _ _ ⟨rfl,rfl⟩
    refine gc Mb ?_
    rintro _ _ ⟨a,L1,C',rfl,hL1,bA,rfl⟩
    have eQ:(ls.map iv++List.replicate (d - ls.length) (Value.pointer none)).set j (ptr a)=(ls++[some (⟨a,ls.length,q⟩:Lv)]).map iv++List.replicate (d - (ls++[some (⟨a,ls.length,q⟩:Lv)]).length) (.pointer none):=by
     rw [List.length_append,List.map_append,jw,nq (by rw [List.length_map,jw]) oZ];rfl
    have hlen:(ls.map iv++List.replicate (d - ls.length) (Value.pointer none)).length=d:=by rw [List.length_append,List.length_map,List.length_replicate];omega
    refine gn ?_
    rw [eQ]
    exact ⟨(j+1,ls++[some (⟨a,ls.length,q⟩:Lv)],C',L++L1),⟨by omega,by rw [List.length_append,jw];rfl,IF.snoc (by rw [jw];exact hq),hL.snoc (by rw [Nat.zero_add,jw];exact hL1),by rw [List.length_append];exact bA⟩,by simp only;omega,aq,_,aa⟩
   ·obtain rfl:j=d:=by omega
    refine gn ?_
    exact ⟨(1,ls,C,L),⟨by omega,by omega,IF,hL,hC⟩,by simp only;omega,aq,_,aa⟩
  ·obtain rfl:j=1:=by omega
   rw [Nat.one_mul] at jw
   have hall:=IF.all
   have Bg:az [(lL,av ((ls.map iv)++List.replicate (d - ls.length) (.pointer none)) 108)] 108 1 (.slice (some ⟨lL,0,none⟩) ls.length d) ls.length (ls.map iv):=⟨by simp,fun u hu=>by
    obtain ⟨o,_,rfl⟩:=List.mem_map.1 hu
    rcases o with _ | x <;> rfl,.inr ⟨lL,d,List.replicate (d - ls.length) (.pointer none),rfl,rfl,by omega,by simp only [maxLen];omega,by rw [List.length_map,List.length_replicate];omega⟩⟩
   have adw:az DL 111 1 (.slice (some ⟨gL,oL,none⟩) 1 cL) 1 [.slice (some ⟨lL,0,none⟩) ls.length d]:=by rw [jw];exact Dp
   have gM:=IF.ok (R:=R.run (upto (qI n mk) ls.length)) (n:=n) fun k hk=>⟨(Rk.eh ..).2 (vV k oZ).1,by rw [Rk.dj];exact (vV k oZ).2⟩
   rw [IE] at hL
   have LG:=Dt p qs t pool tp pr n ls (by rw [jw];exact ok) hall _ C L hC gM hL _ cT DT hT _ cL DL _ d _ adw Bg (.slice (some ⟨gD,oD,none⟩) 1 cD) (DD++[(nK,av (qs.map ptr) 47)]) 1
   refine gc LG ?_
   rintro _ _ ⟨rfl,V,hV,rfl⟩
   refine gz ?_
   rw [jw] at hC
   exact fin ⟨t,V,ls,C,rfl,jw,IF,hV,hC,rfl⟩ aa
end Go.Proofs.YtcfioaeamfappaaGreatDoor
namespace Go.Sl
def GG (n:Nat)(ls:List (Option Lv))(x:Ub)(k:Nat):List Ev:=match ls[k]? with
 | some (some y)=>upto (jR n y.i x) 4
 | _=>[]
def oA (n:Nat)(ls:List (Option Lv))(x:Ub):List Ev:=upto (GG n ls x) ls.length
end Go.Sl
namespace Go.Proofs.YtcfioaeamfappaaGreatDoor
open Go.Sl
set_option maxRecDepth 10000
set_option maxHeartbeats 4000000
section
variable (T:TypeId)(fr:Nat×Nat)(p:Nat)(qs:List Nat)(t pool:Nat)(tp:Tp)(pr:Bool)(n:Nat)(ls:List (Option Lv))(no:Nat)(V:Chunk)(hV:jd t pool tp pr n ls no V)(ok:dE tp pr n ls.length)
include hV ok
theorem IG (R:Rk)(C:Chunk)(hC:br p qs R C)(ho:dI qs R n ls)(hall:∀x∈ls,x≠none)(x:Ub)(hx:zC x=0)(Fc:x.Ok)(hp:x.pool=pool)(hw:R.ws.length+40<=900000000000) :
  Ct 108 [ptr t,x.agg] [gK T fr,C,V] fun u Bs=>∃C',u = .int .i64 (if (R.run (oA n ls x)).off then 5 else 0)/\br p qs (R.run (oA n ls x)) C'/\Bs=[gK T fr,C',V]:=by
 obtain ⟨m,M,fU,cT,DT,dP,cI,DI,jS,cL,DL,ov,cl,Dl,vD,DD,L,hT,hI,wU,hl,hM,hL,rfl⟩:=hV
 have Oz:=hI.rd
 obtain ⟨gI,oI,rfl⟩:=Oz.addr oZ
 have ID:=wU.rd
 obtain ⟨gL,oL,rfl⟩:=ID.addr oZ
 have hn:=ok.hn
 have j4:=ok.hw
 have tc:=hl.rd
 obtain ⟨lL,ol,rfl⟩:=tc.addr oZ
 have qE:[Value.slice (some ⟨lL,ol,none⟩) ls.length cl][0]? = some (.slice (some ⟨lL,ol,none⟩) ls.length cl):=rfl
 have IE:∀k,(GG n ls x k).length<=4:=fun k=>by
  unfold GG
  split
  ·rename_i y hy
   have:=cR (f:=jR n y.i x) (c:=1) (fun k=>by unfold jR;rw [fm];simp) 4
   omega
  ·simp
 refine st Tryz.func108 fun w0 => ?_
 refine gs ?_
 refine ga ?_;intro b3
 refine gc (rh x hx) ?_
 rintro _ _ ⟨rfl,rfl⟩
 refine gl [0,3,6,29,30] (fun ((j,_):Nat×Chunk)=>[(31,.int .i64 j)]) (fun (_,C)=>[C]) (fun (j,C)=>j<=1/\(j=0->br p qs R C)/\(j=1->br p qs (R.run (oA n ls x)) C/\(R.run (oA n ls x)).off=false)) (fun (j,_)=>1 - j) (0,C) ⟨by omega,(fun _=>hC),(fun h=>absurd h oZ)⟩ ?_
 rintro ⟨j,C⟩ ⟨hj,SX,qZ⟩
 refine gi ?_ ?_ <;> intro bh
 ·obtain rfl:j=0:=by omega
  have hC:=SX rfl
  refine gl [0,3,6,7,29,30,31,36,37] (fun ((j,t9,_):Nat×Bool×Chunk)=>[(38,.int .i64 j),(9,.bool t9)]) (fun (_,_,C)=>[C]) (fun (j,t9,C)=>j<=ls.length/\t9=decide (0<j)/\br p qs (R.run (upto (GG n ls x) j)) C/\(0<j->(R.run (upto (GG n ls x) j)).off=false)) (fun (j,_)=>ls.length - j) (0,false,C) ⟨by omega,rfl,hC,(fun h=>absurd h oZ)⟩ ?_
  rintro ⟨j,t9,C⟩ ⟨hj,rfl,hC,jt⟩
  refine gi ?_ ?_ <;> intro pD
  ·obtain ⟨oy,hy⟩:=eB (l:=ls) (i:=j) oZ
   rcases oy with _ | y
   ·exact absurd rfl (hall _ (List.mem_of_getElem? hy))
   obtain ⟨o1,o2,o3⟩:=ho.run (upto (GG n ls x) j) y (List.mem_of_getElem? hy)
   have afG:(ls.map iv)[j]? = some (ptr y.a):=by rw [List.getElem?_map,hy];rfl
   obtain ⟨A,L1,B,pL,rfl⟩:=hL.at hy
   have Cz:=Rk.iJ R (upto (GG n ls x) j)
   have zj:=cR IE j
   have zQ:GG n ls x j=upto (jR n y.i x) 4:=by unfold GG;rw [hy]
   have Wh:=Yt T fr p qs _ C hC y.i y.q n y.a _ L1 pL o1 o2 o3 hn x hx Fc hp oZ
   rw [<-zQ,<-dO] at Wh
   refine gs ?_
   cases pr
   ·have bV:[Iw false m][0]? = some (.iface 179 (ptr m)):=rfl
    refine gj (Ou m n ls _ hn j4.2 M hM j oZ) ?_
    rintro _ _ ⟨⟨a,b,rfl, -⟩,rfl⟩
    rw [show ((List.replicate ls.length (none:Option (Nat×Nat))).getD j none).isSome=false by simp [List.getD,List.getElem?_replicate];split <;> rfl]
    refine ga ?_;intro RC
    refine gc Wh ?_
    rintro _ _ ⟨C',rfl,bA,rfl⟩
    cases dN:(R.run (upto (GG n ls x) (j+1))).off with
    | true =>
     refine gz ?_
     have e:R.run (oA n ls x)=R.run (upto (GG n ls x) (j+1)):=jr dN (by omega:j+1<=ls.length)
     rw [e,dN]
     exact fin ⟨C',rfl,bA,rfl⟩ aa
    | false =>
     refine gn ?_
     exact ⟨(j+1,true,C'),⟨by omega,by simp,bA,fun _=>dN⟩,by simp only;omega,aq,_,aa⟩
   ·have bV:[Iw true m][0]? = some (.iface 175 (ptr m)):=rfl
    refine gj (Oq m n ls hn ⟨ok.hp rfl,j4.2⟩ M hM j oZ) ?_
    rintro _ _ ⟨rfl,rfl⟩
    refine ga ?_;intro RC
    refine gc Wh ?_
    rintro _ _ ⟨C',rfl,bA,rfl⟩
    cases dN:(R.run (upto (GG n ls x) (j+1))).off with
    | true =>
     refine gz ?_
     have e:R.run (oA n ls x)=R.run (upto (GG n ls x) (j+1)):=jr dN (by omega:j+1<=ls.length)
     rw [e,dN]
     exact fin ⟨C',rfl,bA,rfl⟩ aa
    | false =>
     refine gn ?_
     exact ⟨(j+1,true,C'),⟨by omega,by simp,bA,fun _=>dN⟩,by simp only;omega,aq,_,aa⟩
  ·obtain rfl:j=ls.length:=by omega
   rw [decide_eq_true (show 0<ls.length by omega)]
   refine gn ?_
   exact ⟨(1,C),⟨by omega,(fun h=>by cases h),(fun _=>⟨hC,jt oZ⟩)⟩,by simp only;omega,aq,_,aa⟩
 ·obtain rfl:j=1:=by omega
  obtain ⟨bA,dN⟩:=qZ rfl
  refine gz ?_
  exact fin ⟨C,by rw [dN];rfl,bA,rfl⟩ aa
end
theorem TS (m:Nat)(hm:m<=1000000):Ct 269 [.slice none 0 0,.int .i64 m] [] fun u Bs=>∃C,az C 108 1 u 0 []/\Bs=[C]:=by
 rcases Nat.eq_zero_or_pos m with rfl | h0
 ·refine st Tryz.func269 fun w0 => ?_
  refine gz ?_
  exact fin ⟨[],az.nil _ _,rfl⟩ aa
 ·refine st Tryz.func269 fun w0 => ?_
  refine gpz ?_;intro g c l hc lS hl
  refine gv ?_
  refine gz ?_
  exact fin ⟨_,tZ lS hl,rfl⟩ aa
theorem Ky (DL Dl:Chunk)(vL:Value)(ad:Option Addr)(w c:Nat)(xs:List Value)(hL:Rd DL 1 vL 1 [.slice ad w c])(hl:Rd Dl 1 (.slice ad w c) w xs)(hw:w<=1000):Ct 223 [vL] [DL,Dl] fun u Bs=>∃C,az C 108 1 u w xs/\Bs=[C,DL,Dl]:=by
 obtain ⟨jS,cL,rfl⟩:=hL.slice
 obtain ⟨gL,oL,rfl⟩:=hL.addr oZ
 have bV:[Value.slice ad w c][0]? = some (.slice ad w c):=rfl
 refine st Tryz.func223 fun w0 => ?_
 refine gl [0,9,10] (fun j:Nat=>[(11,.int .i64 j),(3,.int .i64 (j*w:Nat))]) (fun _=>[]) (fun j=>j<=1) (fun j=>1 - j) 0 oZ ?_
 intro j hj
 refine gi ?_ ?_ <;> intro bh
 ·obtain rfl:j=0:=by omega
  have ha:IntKind.i64.wrap (((0*w:Nat):Int)+w)=((1*w:Nat):Int):=by rw [IntWalk.i64_in _ oZ];omega
  refine gn ?_
  exact ⟨1,by omega,by omega,aq,_,aa⟩
 ·obtain rfl:j=1:=by omega
  rw [Nat.one_mul]
  refine gc (TS w oZ) ?_
  rintro v0 _ ⟨C,hC,rfl⟩
  refine gl [0,25,26] (fun ((j,v,_):Nat×Value×Chunk)=>[(27,.int .i64 j),(6,v)]) (fun (_,_,C)=>[C]) (fun (j,v,C)=>j<=1/\(j=0->az C 108 1 v 0 [])/\(j=1->az C 108 1 v w xs)) (fun (j,_)=>1 - j) (0,v0,C) ⟨by omega,(fun _=>hC),(fun h=>by cases h)⟩ ?_
  rintro ⟨j,v,C⟩ ⟨hj,h0,h1⟩
  refine gi ?_ ?_ <;> intro bh
  ·obtain rfl:j=0:=by omega
   have SX:=h0 rfl
   obtain ⟨j2,cv,rfl⟩:=SX.slice
   refine gp ?_;intro fJ c3 C3 ka
   rw [Nat.zero_add,List.nil_append] at ka
   refine gn ?_
   exact ⟨(1,.slice fJ (0+w) c3,C3),⟨by omega,(fun h=>by cases h),(fun _=>by rw [Nat.zero_add];exact ka)⟩,by simp only;omega,aq,_,aa⟩
  ·obtain rfl:j=1:=by omega
   have qZ:=h1 rfl
   refine gz ?_
   exact fin ⟨C,qZ,rfl⟩ aa
theorem Kz (p:Nat)(qs:List Nat)(R:Rk)(C:Chunk)(hC:br p qs R C)(i q a:Nat)(l:eR)(L:Chunk)(hL:Oa a q l L)(hq:qs[i]? = some q)(hl:R.live i):Ct 224 [ptr a] [C,L] fun u Bs=>u = .bool false/\Bs=[C,L]:=by
 have hd:Ct 270 [ptr q] [C] fun u Bs=>u = .bool false/\Bs=[C]:=by
  obtain ⟨vw,vd,Cw,Cd,A,B,z,g1,g2,pI,qF,d,hO⟩:=hC.open hq
  rw [hO.Yn hl]
  refine st Tryz.func270 fun w0 => ?_
  refine gs ?_
  refine gz ?_
  exact fin ⟨rfl,rfl⟩ aa
 obtain ⟨ad,c,D,z1,z2,z3,hD,rfl⟩:=hL
 refine st Tryz.func224 fun w0 => ?_
 refine gs ?_
 refine gc hd ?_
 rintro _ _ ⟨rfl,rfl⟩
 refine gz ?_
 exact fin ⟨rfl,rfl⟩ aa
section
variable (T:TypeId)(fr:Nat×Nat)(p:Nat)(qs:List Nat)(t pool:Nat)(tp:Tp)(pr:Bool)(n:Nat)(ls:List (Option Lv))(no:Nat)(V:Chunk)(hV:jd t pool tp pr n ls no V)(ok:dE tp pr n ls.length)(hall:∀x∈ls,x≠none)
include hV ok hall
theorem GH:Ct 167 [ptr t] [V] fun u Bs=>∃C,az C 108 1 u ls.length (ls.map iv)/\Bs=[C,V]:=by
 obtain ⟨m,M,fU,cT,DT,dP,cI,DI,jS,cL,DL,ov,cl,Dl,vD,DD,L,hT,hI,wU,hl,hM,hL,rfl⟩:=hV
 have j4:=ok.hw
 refine st Tryz.func167 fun w0 => ?_
 refine gs ?_
 refine gc (Ky DL Dl _ ov ls.length cl _ wU.rd hl.rd oZ) ?_
 rintro _ _ ⟨Cx,hCx,rfl⟩
 obtain ⟨Wk,cx,rfl⟩:=hCx.slice
 have hxr:=hCx.rd
 obtain ⟨gx,ox,rfl⟩:=hxr.addr oZ
 refine gl [10,11] (fun ((j,v,_):Nat×Value×Chunk)=>[(12,.int .i64 j),(3,v)]) (fun (_,_,C)=>[C]) (fun (j,v,C)=>j<=ls.length/\az C 108 1 v j ((ls.take j).map iv)) (fun (j,_)=>ls.length - j) (0,.slice none 0 0,[]) ⟨by omega,az.nil _ _⟩ ?_
 rintro ⟨j,v,C⟩ ⟨hj,hC⟩
 obtain ⟨j2,cv,rfl⟩:=hC.slice
 refine gi ?_ ?_ <;> intro bh
 ·obtain ⟨oy,hy⟩:=eB (l:=ls) (i:=j) oZ
  rcases oy with _ | y
  ·exact absurd rfl (hall _ (List.mem_of_getElem? hy))
  have bV:(ls.map iv)[j]? = some (ptr y.a):=by rw [List.getElem?_map,hy];rfl
  have CZ:(ls.take (j+1)).map iv=(ls.take j).map iv++[ptr y.a]:=by
   obtain ⟨jg,he⟩:=List.getElem?_eq_some_iff.1 hy
   rw [List.take_succ_eq_append_getElem jg,he,List.map_append];rfl
  refine gm ?_;intro b20
  refine gp ?_;intro fJ c3 C3 ka
  refine gn ?_
  exact ⟨(j+1,_,C3),⟨by omega,by rw [CZ];exact ka⟩,by simp only;omega,aq,_,aa⟩
 ·obtain rfl:j=ls.length:=by omega
  rw [List.take_length] at hC
  refine gz ?_
  exact fin ⟨C,hC,rfl⟩ aa
theorem TT (R:Rk)(C:Chunk)(hC:br p qs R C)(ho:dI qs R n ls):Ct 169 [ptr t] [C,V] fun u Bs=>u = .bool R.off/\Bs=[C,V]:=by
 have ha:=GH t pool tp pr n ls no V hV ok hall
 have j4:=ok.hw
 have hn:=ok.hn
 refine st Tryz.func169 fun w0 => ?_
 refine gc ha ?_
 rintro _ _ ⟨Ca,Wq,rfl⟩
 obtain ⟨m,M,fU,cT,DT,dP,cI,DI,jS,cL,DL,ov,cl,Dl,vD,DD,L,hT,hI,wU,hl,hM,hL,rfl⟩:=hV
 obtain ⟨Wa,ca,rfl⟩:=Wq.slice
 have har:=Wq.rd
 obtain ⟨ga_,oa,rfl⟩:=har.addr oZ
 refine gs ?_
 refine gl [8,9] (fun j:Nat=>[(10,.int .i64 j)]) (fun _=>[]) (fun j=>j<=ls.length/\(0<j->R.off=false)) (fun j=>ls.length - j) 0 ⟨by omega,(fun h=>by cases h)⟩ ?_
 rintro j ⟨hj,jt⟩
 refine gi ?_ ?_ <;> intro bh
 ·obtain ⟨oy,hy⟩:=eB (l:=ls) (i:=j) oZ
  rcases oy with _ | y
  ·exact absurd rfl (hall _ (List.mem_of_getElem? hy))
  obtain ⟨o1,o2,o3⟩:=ho y (List.mem_of_getElem? hy)
  have bV:(ls.map iv)[j]? = some (ptr y.a):=by rw [List.getElem?_map,hy];rfl
  obtain ⟨A,L1,B,pL,rfl⟩:=hL.at hy
  refine gs ?_
  refine gc (Kz p qs R C hC y.i y.q y.a _ L1 pL o1 o2) ?_
  rintro _ _ ⟨rfl,rfl⟩
  refine gc (u5 p qs R C hC y.i y.q n y.a _ L1 pL o1 o2 o3 hn 0 0 oZ) ?_
  rintro _ _ (⟨dN,rfl,rfl⟩ | ⟨dN,g2,rfl,rfl⟩)
  ·refine gz ?_
   exact fin ⟨by rw [dN],rfl⟩ aa
  ·refine gn ?_
   exact ⟨j+1,⟨by omega,(fun _=>dN)⟩,by omega,aq,_,aa⟩
 ·obtain rfl:j=ls.length:=by omega
  refine gz ?_
  exact fin ⟨by rw [jt oZ],rfl⟩ aa
end
end Go.Proofs.YtcfioaeamfappaaGreatDoor
namespace Go.Sl
def Mc (ring:Nat->Nat->Nat->Option Ub)(pool w:Nat)(u:Ub):Prop:=∃i k j,i<w/\k<4/\j<8/\ring i k j=some u/\u.pool=pool
def mI (ring:Nat->Nat->Nat->Option Ub)(pool w:Nat)(x:Ub):Prop:=(x=jj/\∀u,¬Mc ring pool w u)\/(Mc ring pool w x/\1<=x.txg/\∀u,Mc ring pool w u->u.txg<=x.txg)
theorem GI {ring:Nat->Nat->Nat->Option Ub}{pool j:Nat}{x:Ub}(h:mI ring pool j x)(hn:∀u,¬ ∃k i,k<4/\i<8/\ring j k i=some u/\u.pool=pool):mI ring pool (j+1) x:=by
 have e:∀u,Mc ring pool (j+1) u↔Mc ring pool j u:=fun u=>⟨fun ⟨i,k,q,h1,h2,h3,h4,h5⟩=>by
  rcases (show i<j\/i=j by omega) with c | rfl
  ·exact ⟨i,k,q,c,h2,h3,h4,h5⟩
  ·exact absurd ⟨k,q,h2,h3,h4,h5⟩ (hn u),fun ⟨i,k,q,h1,h2⟩=>⟨i,k,q,by omega,h2⟩⟩
 simpa only [mI,e] using h
theorem GJ {ring:Nat->Nat->Nat->Option Ub}{pool j:Nat}{x y:Ub}(h:mI ring pool j x)(hy:∃k i,k<4/\i<8/\ring j k i=some y/\y.pool=pool)(h1:1<=y.txg)(hm:∀u,(∃k i,k<4/\i<8/\ring j k i=some u/\u.pool=pool)->u.txg<=y.txg) :
  mI ring pool (j+1) (if x.txg<y.txg then y else x):=by
 have e:∀u,Mc ring pool (j+1) u->Mc ring pool j u\/∃k i,k<4/\i<8/\ring j k i=some u/\u.pool=pool:=fun u ⟨i,k,q,h1,h2,h3,h4,h5⟩=>by
  rcases (show i<j\/i=j by omega) with c | rfl
  ·exact .inl ⟨i,k,q,c,h2,h3,h4,h5⟩
  ·exact .inr ⟨k,q,h2,h3,h4,h5⟩
 have e1:∀u,Mc ring pool j u->Mc ring pool (j+1) u:=fun u ⟨i,k,q,h1,h2⟩=>⟨i,k,q,by omega,h2⟩
 obtain ⟨ky,qy,hy1⟩:=hy
 right
 split
 ·rename_i bh
  refine ⟨⟨j,ky,qy,by omega,hy1⟩,h1,fun u hu => ?_⟩
  rcases e u hu with hu | hu
  ·rcases h with ⟨-,h⟩ | ⟨-, -,h⟩
   ·exact absurd hu (h u)
   ·have:=h u hu;omega
  ·exact hm u hu
 ·rename_i xN
  rcases h with ⟨rfl,h⟩ | ⟨h2,h3,h4⟩
  ·exact absurd (show jj.txg<y.txg from h1) xN
  ·refine ⟨e1 x h2,h3,fun u hu => ?_⟩
   rcases e u hu with hu | hu
   ·exact h4 u hu
   ·have:=hm u hu;omega
end Go.Sl
namespace Go.Proofs.YtcfioaeamfappaaGreatDoor
open Go.Sl
set_option maxRecDepth 10000
set_option maxHeartbeats 4000000
section
variable (T:TypeId)(fr:Nat×Nat)(p:Nat)(qs:List Nat)(t pool:Nat)(tp:Tp)(pr:Bool)(n:Nat)(ls:List (Option Lv))(no:Nat)(V:Chunk)(hV:jd t pool tp pr n ls no V)(ok:dE tp pr n ls.length)(hall:∀x∈ls,x≠none)
include hV ok hall
theorem Ad (R:Rk)(C:Chunk)(hC:br p qs R C)(ho:dI qs R n ls)(bW:R.off=false)(ring:Nat->Nat->Nat->Option Ub)(hr:∀i x,ls[i]? = some (some x)->iL R n x.i (ring i))(U:List Ub)(hU:U.length<=19)(Ow:∀i k j u,ring i k j=some u->u∈U) :
  Ct 43 [ptr t] [gK T fr,C,V] fun u Bs=>(∃x,mI ring pool ls.length x/\u = .tuple #[x.agg,.int .i64 (if x.txg=0 then 82 else 0)])/\Bs=[gK T fr,C,V]:=by
 obtain ⟨m,M,fU,cT,DT,dP,cI,DI,jS,cL,DL,ov,cl,Dl,vD,DD,L,hT,hI,wU,hl,hM,hL,rfl⟩:=hV
 have j4:=ok.hw
 have hn:=ok.hn
 have ID:=wU.rd
 obtain ⟨gL,oL,rfl⟩:=ID.addr oZ
 have tc:=hl.rd
 obtain ⟨lL,ol,rfl⟩:=tc.addr oZ
 have qE:[Value.slice (some ⟨lL,ol,none⟩) ls.length cl][0]? = some (.slice (some ⟨lL,ol,none⟩) ls.length cl):=rfl
 refine st Tryz.func43 fun w0 => ?_
 refine gs ?_
 refine ga ?_;intro b2
 refine ga ?_;intro b4
 refine gl [2,4,13,14] (fun ((j,_):Nat×Ub)=>[(15,.int .i64 j)]) (fun (_,x)=>[[(b4,av x.lay 117)]]) (fun (j,x)=>j<=1/\(j=0->x=jj)/\(j=1->mI ring pool ls.length x)) (fun (j,_)=>1 - j) (0,jj) ⟨by omega,(fun _=>rfl),(fun h=>by cases h)⟩ ?_
 rintro ⟨j,x⟩ ⟨hj,VM,Cq⟩
 refine gi ?_ ?_ <;> intro bh
 ·obtain rfl:j=0:=by omega
  have VM:=VM rfl
  subst VM
  refine gl [2,4,13,14,15,19,20] (fun ((j,_):Nat×Ub)=>[(21,.int .i64 j)]) (fun (_,x)=>[[(b4,av x.lay 117)]]) (fun (j,x)=>j<=ls.length/\mI ring pool j x) (fun (j,_)=>ls.length - j) (0,jj) ⟨by omega,.inl ⟨rfl,fun u ⟨i,k,j,h,_⟩=>by omega⟩⟩ ?_
  rintro ⟨j,x⟩ ⟨hj,hx⟩
  refine gi ?_ ?_ <;> intro pD
  ·obtain ⟨oy,hy⟩:=eB (l:=ls) (i:=j) oZ
   rcases oy with _ | y
   ·exact absurd rfl (hall _ (List.mem_of_getElem? hy))
   obtain ⟨o1,o2,o3⟩:=ho y (List.mem_of_getElem? hy)
   have bV:(ls.map iv)[j]? = some (ptr y.a):=by rw [List.getElem?_map,hy];rfl
   obtain ⟨A,L1,B,pL,rfl⟩:=hL.at hy
   refine gs ?_
   refine gc (Da T fr p qs R C hC y.i y.q n y.a _ L1 pL o1 o2 bW o3 hn (ring j) (hr j y hy) U hU (Ow j)) ?_
   rintro v _ ⟨us,D,hD,hm,hs,rfl⟩
   have jq:=hD.rd
   obtain ⟨ad,c,rfl⟩:=hD.slice
   rcases us with _ | ⟨u0,us⟩
   ·have hb:mI ring pool (j+1) x:=GI hx fun u h=>absurd ((hm u).2 h) (by simp)
    have h0:([]:List Ub).length=0:=rfl
    rw [h0]
    refine gn ?_
    exact ⟨(j+1,x),⟨by omega,hb⟩,by simp only;omega,aq,_,aa⟩
   ·obtain ⟨g,off,rfl⟩:=jq.addr (by simp)
    have xe:=ar Ub.aj (u0 :: us) 0 u0 rfl
    have xg:=xe 1 _ rfl
    have jC:=(hm u0).1 (List.mem_cons_self ..)
    have YV:∀u,(∃k i,k<4/\i<8/\ring j k i=some u/\u.pool=pool)->u.txg<=u0.txg:=fun u h=>by
     rcases List.mem_cons.1 ((hm u).2 h) with rfl | h'
     ·exact Nat.le_refl _
     ·obtain ⟨q,hq⟩:=List.mem_iff_getElem?.1 h'
      have Du:=(List.getElem?_eq_some_iff.1 hq).1
      exact hs 0 (q+1) u0 u oZ (by simp only [List.length_cons];omega) rfl hq
    have MF:1<=u0.txg:=by
     obtain ⟨k,i,h1,h2,h3, -⟩:=jC
     have:=hr j y hy k i h1 h2
     rw [h3] at this
     exact (zE this.2.1).1
    have hb:=GJ hx jC MF YV
    have h0:(u0 :: us).length=us.length+1:=rfl
    rw [h0] at jq ⊢
    refine gi ?_ ?_ <;> intro ib
    ·rw [if_pos oZ] at hb
     refine gn ?_
     exact ⟨(j+1,u0),⟨by omega,hb⟩,by simp only;omega,aq,_,aa⟩
    ·rw [if_neg oZ] at hb
     refine gn ?_
     exact ⟨(j+1,x),⟨by omega,hb⟩,by simp only;omega,aq,_,aa⟩
  ·obtain rfl:j=ls.length:=by omega
   refine gn ?_
   exact ⟨(1,x),⟨by omega,(fun h=>by cases h),(fun _=>hx)⟩,by simp only;omega,aq,_,aa⟩
 ·obtain rfl:j=1:=by omega
  have hx:=Cq rfl
  refine gi ?_ ?_ <;> intro hz
  ·have GK:x=jj:=by
    rcases hx with ⟨h, -⟩ | ⟨-,h, -⟩
    ·exact h
    ·simp at hz;omega
   subst GK
   refine gz ?_
   exact fin ⟨⟨jj,hx,rfl⟩,rfl⟩ aa
  ·refine gz ?_
   exact fin ⟨⟨x,hx,by rw [if_neg (by simp at hz;omega)]⟩,rfl⟩ aa
end
end Go.Proofs.YtcfioaeamfappaaGreatDoor
namespace Go.Sl
def yq (R:Rk)(i z:Nat):Nat->Nat
 | 0=>z
 | k+1=>max (yq R i z k) ((if gA (R.now i (18+k)) then fo (R.now i (18+k)) else 0)+1)
def pU (R:Rk)(ls:List (Option Lv))(z:Nat):Nat->Nat
 | 0=>z
 | j+1=>match ls[j]? with
  | some (some x)=>yq R x.i (pU R ls z j) 256
  | _=>pU R ls z j
theorem Ae {s:eF}(h:gA s=true):1<=fo s/\fo s<=281474976710656:=by
 unfold gA at h
 rw [Bool.and_eq_true] at h
 exact of_decide_eq_true h.2
theorem GL {R:Rk}{i z:Nat}(h:z<=281474976710657):∀k,yq R i z k<=281474976710657
 | 0=>h
 | k+1=>by
  rw [yq]
  have:=GL (R:=R) (i:=i) h k
  split
  ·rename_i hl
   have:=Ae hl;omega
  ·omega
theorem O6 {R:Rk}{ls:List (Option Lv)}{z:Nat}(h:z<=281474976710657):∀j,pU R ls z j<=281474976710657
 | 0=>h
 | j+1=>by
  rw [pU]
  have:=O6 (R:=R) (ls:=ls) h j
  split
  ·exact GL this _
  ·exact this
attribute [irreducible] yq pU
end Go.Sl
namespace Go.Proofs.YtcfioaeamfappaaGreatDoor
open Go.Sl
set_option maxRecDepth 10000
set_option maxHeartbeats 4000000
section
variable (T:TypeId)(fr:Nat×Nat)(p:Nat)(qs:List Nat)(t pool:Nat)(tp:Tp)(pr:Bool)(n:Nat)(ls:List (Option Lv))(no:Nat)(V:Chunk)(hV:jd t pool tp pr n ls no V)(ok:dE tp pr n ls.length)(hall:∀x∈ls,x≠none)
include hV ok hall
theorem KA (R:Rk)(C:Chunk)(hC:br p qs R C)(ho:dI qs R n ls)(bW:R.off=false)(ring:Nat->Nat->Nat->Option Ub)(hr:∀i x,ls[i]? = some (some x)->iL R n x.i (ring i))(U:List Ub)(hU:U.length<=19)(Ow:∀i k j u,ring i k j=some u->u∈U)
  (eP:∀i,i<ls.length->(∃u,Mc ring pool ls.length u)->∃u k j,k<4/\j<8/\ring i k j=some u/\u.pool=pool) (eV:no<=281474976710657) :
  Ct 71 [ptr t] [gK T fr,C,V] fun _ Bs=>∃V',jd t pool tp pr n ls (pU R ls no ls.length) V'/\Bs=[gK T fr,C,V']:=by
 have O7:=Ad T fr p qs t pool tp pr n ls no V hV ok hall R C hC ho bW ring hr U hU Ow
 obtain ⟨dm,M,fU,cT,DT,dP,cI,DI,jS,cL,DL,ov,cl,Dl,vD,DD,L,hT,hI,wU,hl,hM,hL,rfl⟩:=hV
 have hV:∀no,jd t pool tp pr n ls no ([(t,Db pool (.slice fU 1 cT) (.slice dP 1 cI) (.slice jS 1 cL) vD no)]++(DT++(DI++(DL++(Dl++(DD++(M++L))))))):=fun no=>⟨dm,M,fU,cT,DT,dP,cI,DI,jS,cL,DL,ov,cl,Dl,vD,DD,L,hT,hI,wU,hl,hM,hL,rfl⟩
 have j4:=ok.hw
 have hn:=ok.hn
 have ID:=wU.rd
 obtain ⟨gL,oL,rfl⟩:=ID.addr oZ
 have tc:=hl.rd
 obtain ⟨lL,ol,rfl⟩:=tc.addr oZ
 have qE:[Value.slice (some ⟨lL,ol,none⟩) ls.length cl][0]? = some (.slice (some ⟨lL,ol,none⟩) ls.length cl):=rfl
 refine st Tryz.func71 fun w0 => ?_
 refine gs ?_
 refine gc O7 ?_
 rintro _ _ ⟨⟨x,hx,rfl⟩,rfl⟩
 refine gs ?_
 refine ga ?_;intro b2
 refine gl [0,2,20,21] (fun ((j,_):Nat×Nat)=>[(22,.int .i64 j)]) (fun (_,z)=>[[(t,Db pool (.slice fU 1 cT) (.slice dP 1 cI) (.slice (some ⟨gL,oL,none⟩) 1 cL) vD z)]]) (fun (j,z)=>j<=1/\z=pU R ls no (j*ls.length)) (fun (j,_)=>1 - j) (0,no) ⟨by omega,by rw [Nat.zero_mul,pU]⟩ ?_
 rintro ⟨j,z⟩ ⟨hj,hz⟩
 refine gi ?_ ?_ <;> intro bh
 ·obtain rfl:j=0:=by omega
  rw [Nat.zero_mul] at hz
  refine gl [0,2,4,20,21,22,27,28] (fun ((j,_):Nat×Nat)=>[(29,.int .i64 j)]) (fun (_,z)=>[[(t,Db pool (.slice fU 1 cT) (.slice dP 1 cI) (.slice (some ⟨gL,oL,none⟩) 1 cL) vD z)]]) (fun (j,z)=>j<=ls.length/\z=pU R ls no j) (fun (j,_)=>ls.length - j) (0,z) ⟨by omega,hz⟩ ?_
  rintro ⟨j,z⟩ ⟨hj,hz⟩
  refine gi ?_ ?_ <;> intro pD
  ·obtain ⟨oy,hy⟩:=eB (l:=ls) (i:=j) oZ
   rcases oy with _ | y
   ·exact absurd rfl (hall _ (List.mem_of_getElem? hy))
   obtain ⟨o1,o2,o3⟩:=ho y (List.mem_of_getElem? hy)
   have bV:(ls.map iv)[j]? = some (ptr y.a):=by rw [List.getElem?_map,hy];rfl
   have LS:pU R ls no (j+1)=yq R y.i (pU R ls no j) 256:=by rw [pU,hy]
   have TG:z<=281474976710657:=by rw [hz];exact O6 eV j
   obtain ⟨A,L1,B,pL,rfl⟩:=hL.at hy
   refine gs ?_
   refine gl [0,2,4,6,7,20,21,22,27,28,29] (fun ((k,_):Nat×Nat)=>[(36,.int .i64 k)]) (fun (_,z)=>[[(t,Db pool (.slice fU 1 cT) (.slice dP 1 cI) (.slice (some ⟨gL,oL,none⟩) 1 cL) vD z)]]) (fun (k,z')=>k<=256/\z'=yq R y.i z k) (fun (k,_)=>256 - k) (0,z) ⟨by omega,by rw [yq]⟩ ?_
   rintro ⟨k,z'⟩ ⟨hk,O8⟩
   refine gi ?_ ?_ <;> intro ady
   ·have afH:z'<=281474976710657:=by rw [O8];exact GL TG k
    have xh:yq R y.i z (k+1)=max z' ((if gA (R.now y.i (18+k)) then fo (R.now y.i (18+k)) else 0)+1):=by rw [yq,<-O8]
    refine gc (Il T fr p qs R C hC y.i y.q n y.a _ L1 pL o1 o2 o3 k oZ oZ) ?_
    rintro _ _ (⟨dN,rfl,rfl⟩ | ⟨dN,jw,rfl,rfl⟩ | ⟨dN,jw,g2,rfl,rfl⟩)
    ·rw [bW] at dN;cases dN
    ·rw [if_neg (by rw [jw];simp)] at xh
     refine go ?_
     rw [show (max ((z':Nat):Int) (0+1))=((yq R y.i z (k+1):Nat):Int) by rw [xh];omega]
     refine gn ?_
     exact ⟨(k+1,yq R y.i z (k+1)),⟨by omega,rfl⟩,by simp only;omega,aq,_,aa⟩
    ·rw [if_pos jw] at xh
     have LU:=Ae jw
     refine go ?_
     rw [show (max ((z':Nat):Int) ((fo (R.now y.i (18+k))+1:Nat):Int))=((yq R y.i z (k+1):Nat):Int) by rw [xh];omega]
     refine gn ?_
     exact ⟨(k+1,yq R y.i z (k+1)),⟨by omega,rfl⟩,by simp only;omega,aq,_,aa⟩
   ·obtain rfl:k=256:=by omega
    rw [hz,<-LS] at O8
    clear LS TG ady hk hz
    refine gg ?_ ?_ <;> intro hg
    ·refine gc (Da T fr p qs R C hC y.i y.q n y.a _ L1 pL o1 o2 bW o3 hn (ring j) (hr j y hy) U hU (Ow j)) ?_
     rintro v _ ⟨us,D,hD,hm,hs,rfl⟩
     obtain ⟨ad,c,rfl⟩:=hD.slice
     have RN:us≠[]:=by
      rcases hx with ⟨rfl, -⟩ | ⟨hx, -, -⟩
      ·simp [jj] at hg
      ·obtain ⟨u,k,q,h1,h2,h3,h4⟩:=eP j oZ ⟨x,hx⟩
       exact List.ne_nil_of_mem ((hm u).2 ⟨k,q,h1,h2,h3,h4⟩)
     have zj:=List.length_pos_iff.2 RN
     refine gn ?_
     exact ⟨(j+1,z'),⟨by omega,O8⟩,by simp only;omega,aq,_,aa⟩
    ·refine gn ?_
     exact ⟨(j+1,z'),⟨by omega,O8⟩,by simp only;omega,aq,_,aa⟩
  ·obtain rfl:j=ls.length:=by omega
   refine gn ?_
   exact ⟨(1,z),⟨by omega,by rw [Nat.one_mul];exact hz⟩,by simp only;omega,aq,_,aa⟩
 ·obtain rfl:j=1:=by omega
  rw [Nat.one_mul] at hz
  subst hz
  refine gz ?_
  exact fin ⟨_,hV _,rfl⟩ aa
end
set_option maxHeartbeats 2000000
theorem TU (tp:Tp)(D1 D2:Chunk)(iI ad2:Option Addr)(c1 c2:Nat)(h1:Rd D1 3 (.slice iI 1 c1) 1 tp.lay)(h2:Rd D2 3 (.slice ad2 1 c2) 1 tp.lay):Ct 70 [.slice iI 1 c1,.slice ad2 1 c2] [D1,D2] fun u Bs=>u = .bool true/\Bs=[D1,D2]:=by
 obtain ⟨g1,o1,rfl⟩:=h1.addr oZ
 obtain ⟨g2,o2,rfl⟩:=h2.addr oZ
 have hs:Sub (0*3) tp.lay tp.lay:=ar Tp.aj [tp] 0 tp rfl
 refine st Tryz.func70 fun w0 => ?_
 refine gl [0,1,11,12] (fun j:Nat=>[(13,.int .i64 j)]) (fun _=>[]) (fun j=>j<=1) (fun j=>1 - j) 0 oZ ?_
 intro j hj
 refine gi ?_ ?_ <;> intro bh
 ·obtain rfl:j=0:=by omega
  refine gi ?_ ?_ <;> intro eP
  ·simp at eP
  ·refine gn ?_
   exact ⟨1,by omega,by omega,aq,_,aa⟩
 ·refine gz ?_
  exact fin ⟨rfl,rfl⟩ aa
theorem O9 (tp:Tp)(D1:Chunk)(iI:Option Addr)(c1:Nat)(h1:Rd D1 3 (.slice iI 1 c1) 1 tp.lay):Ct 70 [.slice iI 1 c1,.slice iI 1 c1] [D1] fun u Bs=>u = .bool true/\Bs=[D1]:=by
 obtain ⟨g1,o1,rfl⟩:=h1.addr oZ
 have hs:Sub (0*3) tp.lay tp.lay:=ar Tp.aj [tp] 0 tp rfl
 refine st Tryz.func70 fun w0 => ?_
 refine gl [0,1,11,12] (fun j:Nat=>[(13,.int .i64 j)]) (fun _=>[]) (fun j=>j<=1) (fun j=>1 - j) 0 oZ ?_
 intro j hj
 refine gi ?_ ?_ <;> intro bh
 ·obtain rfl:j=0:=by omega
  refine gi ?_ ?_ <;> intro eP
  ·simp at eP
  ·refine gn ?_
   exact ⟨1,by omega,by omega,aq,_,aa⟩
 ·refine gz ?_
  exact fin ⟨rfl,rfl⟩ aa
def adA (pool:Nat)(tp:Tp)(w:Nat)(qs:List Nat)(ls:List (Option Lv))(v4:Value)(Tk DT DL Dl DD Dd:Chunk):Prop:=∃t fU cT jS cL lL Be cD nK,v4=ptr t/\az DT 23 3 (.slice fU 1 cT) 1 tp.lay/\az DL 111 1 (.slice jS 1 cL) 1 [.slice (some ⟨lL,0,none⟩) w w]/\az DD 35 1 (.slice Be 1 cD) 1 [.slice (some ⟨nK,0,none⟩) w w] /\
 Tk=[(t,Db pool (.slice fU 1 cT) (.slice none 0 0) (.slice jS 1 cL) (.slice Be 1 cD) 1)]/\Dl=[(lL,av (ls.map iv++List.replicate (w - ls.length) (.pointer none)) 108)]/\Dd=[(nK,av ((qs.take ls.length).map ptr++List.replicate (w - ls.length) (.pointer none)) 47)]
theorem KB (T:TypeId)(fr:Nat×Nat)(p:Nat)(qs:List Nat)(pool:Nat)(tp:Tp)(pr:Bool)(n w:Nat)(ok:dE tp pr n w)(hqs:qs.length=w)(R:Rk)(C:Chunk)(hC:br p qs R C)(bW:R.off=false)(vV:∀k,k<w->R.live k/\R.size k=n)
  (LU:∀k,k<w->uN ⟨pool,[tp],0,k⟩=0/\eR.Ok ⟨pool,[tp],0,k⟩) (YB:∀k,k<w->R.now k (fA n 0)=whole (dJ ⟨pool,[tp],0,k⟩)) (Q:Chunk) (lC:Option Addr) (cq:Nat) (hQ:Rd Q 1 (.slice lC w cq) w (qs.map ptr))
  (ring:Nat->Nat->Nat->Option Ub) (hr:∀k,k<w->iL R n k (ring k)) (U:List Ub) (hU:U.length<=19) (Ow:∀i k j u,ring i k j=some u->u∈U) (eP:∀i,i<w->(∃u,Mc ring pool w u)->∃u k j,k<4/\j<8/\ring i k j=some u/\u.pool=pool) :
  Ct 23 [.slice lC w cq] [gK T fr,C,Q] fun u Bs=>∃t V ls,u = .tuple #[ptr t,.int .i64 0]/\ls.length=w/\j7 qs ls/\jd t pool tp pr n ls (pU R ls 1 w) V/\Bs=[V,gK T fr,C,Q]:=by
 have hn:=ok.hn
 have j4:=ok.hw
 have htp:=ok.ht
 have Y1:tp.leaves=w:=by rw [htp]
 have u3:tp.bz=n:=by rw [htp]
 obtain ⟨mk,IE⟩:∃mk:Nat->eR,mk=fun k=>⟨pool,[tp],0,(k:Nat)⟩:=⟨_,rfl⟩
 obtain ⟨gq,oq,rfl⟩:=hQ.addr oZ
 refine st Tryz.func23 fun w0 => ?_
 refine gl [2,3,11,12] (fun ((j,v4,_):Nat×Value×List (Option Lv)×Chunk×Chunk×Chunk×Chunk×Chunk×Chunk×Chunk)=>[(13,.int .i64 j),(4,v4)]) (fun (_,_,_,Tk,DT,DL,Dl,DD,Dd,L)=>[Tk,DT,DL,Dl,DD,Dd,L]) (fun (j,v4,ls,Tk,DT,DL,Dl,DD,Dd,L)=>j<=w/\ls.length=j/\j7 qs ls/\iw mk 0 ls L/\(j=0->v4 = .pointer none/\Tk=[]/\DT=[]/\DL=[]/\Dl=[]/\DD=[]/\Dd=[])/\(0<j->adA pool tp w qs ls v4 Tk DT DL Dl DD Dd)) (fun (j,_)=>w - j) (0,.pointer none,[],[],[],[],[],[],[],[]) ⟨by omega,rfl,(fun k hk=>absurd hk (by simp)),rfl,(fun _=>⟨rfl,rfl,rfl,rfl,rfl,rfl,rfl⟩),(fun h=>by cases h)⟩ ?_
 rintro ⟨j,v4,ls,Tk,DT,DL,Dl,DD,Dd,L⟩ ⟨hj,jw,IF,hL,h0,h1⟩
 refine gi ?_ ?_ <;> intro bh
 ·obtain ⟨q,hq⟩:=eB (l:=qs) (i:=j) oZ
  obtain ⟨s7,jc⟩:=vV j oZ
  have Ma:mk j=⟨pool,[tp],0,(j:Nat)⟩:=by rw [IE]
  have nC:=Tv T fr p qs R C hC j q n hq s7 bW jc hn (mk j) (by rw [Ma];exact (LU j oZ).1) (by rw [Ma];exact (LU j oZ).2) (fun t ht=>by rw [Ma] at ht;simp at ht;rw [<-ht];exact u3) 0 oZ (fun k hk=>absurd hk oZ) (by rw [Ma];exact YB j oZ)
  refine gc nC ?_
  rintro _ _ ⟨a,L1,rfl,hL1,rfl⟩
  have adB:Ct 69 [ptr a] [L1] fun u Bs=>∃ad c D,u = .agg #[.int .u64 pool,.slice ad 1 c,.int .i64 0,.int .i64 j]/\az D 23 3 (.slice ad 1 c) 1 tp.lay/\Bs=[D,L1]:=by
   have:=Oy a q (mk j) L1 hL1 (by rw [Ma];simp)
   rw [Ma] at this
   simpa [mv] using this
  refine gc adB ?_
  rintro _ _ ⟨afI,cD0,D,rfl,hD,rfl⟩
  have jq:=hD.rd
  obtain ⟨gD0,oD0,rfl⟩:=jq.addr oZ
  refine ga ?_;intro b9
  rcases Nat.eq_zero_or_pos j with hj0 | hj0
  ·obtain ⟨rfl,rfl,rfl,rfl,rfl,rfl,rfl⟩:=h0 hj0
   refine ga ?_;intro t
   refine gc (yp t pool tp w ⟨Y1,j4.2⟩ (some ⟨gD0,oD0,none⟩) cD0 D hD _ 1) ?_
   rintro _ _ ⟨jS,cL,DL,lL,Be,cD,DD,nK,Dp,L8,rfl⟩
   have abo:ls=[]:=List.eq_nil_of_length_eq_zero oZ
   have e1:[(lL,av (List.replicate w (Value.pointer none)) 108)]=[(lL,av (ls.map iv++List.replicate (w - ls.length) (Value.pointer none)) 108)]:=by rw [abo];simp
   have e2:[(nK,av (List.replicate w (Value.pointer none)) 47)]=[(nK,av ((qs.take ls.length).map ptr++List.replicate (w - ls.length) (Value.pointer none)) 47)]:=by rw [abo];simp
   rw [e1,e2]
   have hT:=hD
   obtain ⟨cT,hcT⟩:∃c,c=cD0:=⟨_,rfl⟩
   subst hcT
   have ID:=Dp.rd
   obtain ⟨gL,oL,rfl⟩:=ID.addr oZ
   have Y2:=L8.rd
   obtain ⟨gDD,oDD,rfl⟩:=Y2.addr oZ
   have hcL:[Value.slice (some ⟨lL,0,none⟩) w w][0]? = some (.slice (some ⟨lL,0,none⟩) w w):=rfl
   have hcD:[Value.slice (some ⟨nK,0,none⟩) w w][0]? = some (.slice (some ⟨nK,0,none⟩) w w):=rfl
   have Th:(ls.map iv++List.replicate (w - ls.length) (Value.pointer none))[j]? = some (.pointer none):=by
    rw [List.getElem?_append_right (by rw [List.length_map];omega),List.length_map,jw,Nat.sub_self,List.getElem?_replicate,if_pos oZ]
   have eQ:(ls.map iv++List.replicate (w - ls.length) (Value.pointer none)).set j (ptr a)=(ls++[some (⟨a,ls.length,q⟩:Lv)]).map iv++List.replicate (w - (ls++[some (⟨a,ls.length,q⟩:Lv)]).length) (.pointer none):=by
    rw [List.length_append,List.map_append,jw,nq (by rw [List.length_map,jw]) oZ];rfl
   have Cp:((qs.take ls.length).map ptr++List.replicate (w - ls.length) (Value.pointer none)).set j (ptr q)=((qs.take (ls++[some (⟨a,ls.length,q⟩:Lv)]).length).map ptr++List.replicate (w - (ls++[some (⟨a,ls.length,q⟩:Lv)]).length) (.pointer none)):=by
    obtain ⟨jg,he⟩:=List.getElem?_eq_some_iff.1 hq
    rw [List.length_append,jw,nq (by rw [List.length_map,List.length_take];omega) oZ,show j+[some (⟨a,j,q⟩:Lv)].length=j+1 from rfl,List.take_succ_eq_append_getElem jg,he,List.map_append];rfl
   have abp:(ls.map iv++List.replicate (w - ls.length) (Value.pointer none)).length=w:=by rw [List.length_append,List.length_map,List.length_replicate];omega
   have ik:((qs.take ls.length).map ptr++List.replicate (w - ls.length) (Value.pointer none)).length=w:=by rw [List.length_append,List.length_map,List.length_take,List.length_replicate];omega
   refine gd [0,4,8,12,16,20,24,28,32,36,40,44,48,52,57,60,64,68,72,76,80,84,88,92,96,100,104,108,112,116,120] ?_
   refine gc (O9 tp D _ _ jq) ?_
   rintro _ _ ⟨rfl,rfl⟩
   refine qC [[(t,Db pool (.slice (some ⟨gD0,oD0,none⟩) 1 cT) (.slice none 0 0) (.slice (some ⟨gL,oL,none⟩) 1 cL) (.slice (some ⟨gDD,oDD,none⟩) 1 cD) 1)],DL,DD,[(b9,av [.int .u64 pool,.slice (some ⟨gD0,oD0,none⟩) 1 cT,.int .i64 0,.int .i64 j] 105)]] [0,4,8,12,16,20,24,28,32,36,40,44,48,52,56,60,64,68,72,76,80,84,88,93,96,103] ?_
   refine gn ?_
   rw [eQ,Cp]
   exact ⟨(j+1,ptr t,ls++[some ⟨a,ls.length,q⟩],_,D,DL,_,DD,_,L++L1),⟨by omega,by rw [List.length_append,jw];rfl,IF.snoc (by rw [jw];exact hq),hL.snoc (by rw [Nat.zero_add,jw];exact hL1),(fun h=>by omega),(fun _=>⟨t,_,cT,_,cL,lL,_,cD,nK,rfl,hT,Dp,L8,rfl,rfl,rfl⟩)⟩,by simp only;omega,aq,_,aa⟩
  ·obtain ⟨t,fU,cT,jS,cL,lL,Be,cD,nK,rfl,hT,Dp,L8,rfl,rfl,rfl⟩:=h1 hj0
   have ID:=Dp.rd
   obtain ⟨gL,oL,rfl⟩:=ID.addr oZ
   have Y2:=L8.rd
   obtain ⟨gDD,oDD,rfl⟩:=Y2.addr oZ
   have hcL:[Value.slice (some ⟨lL,0,none⟩) w w][0]? = some (.slice (some ⟨lL,0,none⟩) w w):=rfl
   have hcD:[Value.slice (some ⟨nK,0,none⟩) w w][0]? = some (.slice (some ⟨nK,0,none⟩) w w):=rfl
   have Th:(ls.map iv++List.replicate (w - ls.length) (Value.pointer none))[j]? = some (.pointer none):=by
    rw [List.getElem?_append_right (by rw [List.length_map];omega),List.length_map,jw,Nat.sub_self,List.getElem?_replicate,if_pos oZ]
   have eQ:(ls.map iv++List.replicate (w - ls.length) (Value.pointer none)).set j (ptr a)=(ls++[some (⟨a,ls.length,q⟩:Lv)]).map iv++List.replicate (w - (ls++[some (⟨a,ls.length,q⟩:Lv)]).length) (.pointer none):=by
    rw [List.length_append,List.map_append,jw,nq (by rw [List.length_map,jw]) oZ];rfl
   have Cp:((qs.take ls.length).map ptr++List.replicate (w - ls.length) (Value.pointer none)).set j (ptr q)=((qs.take (ls++[some (⟨a,ls.length,q⟩:Lv)]).length).map ptr++List.replicate (w - (ls++[some (⟨a,ls.length,q⟩:Lv)]).length) (.pointer none)):=by
    obtain ⟨jg,he⟩:=List.getElem?_eq_some_iff.1 hq
    rw [List.length_append,jw,nq (by rw [List.length_map,List.length_take];omega) oZ,show j+[some (⟨a,j,q⟩:Lv)].length=j+1 from rfl,List.take_succ_eq_append_getElem jg,he,List.map_append];rfl
   have abp:(ls.map iv++List.replicate (w - ls.length) (Value.pointer none)).length=w:=by rw [List.length_append,List.length_map,List.length_replicate];omega
   have ik:((qs.take ls.length).map ptr++List.replicate (w - ls.length) (Value.pointer none)).length=w:=by rw [List.length_append,List.length_map,List.length_take,List.length_replicate];omega
   refine gd [0,4,8,12,16,20,24,28,32,36,40,44,48,52,57,60,64,68,72,76,80,84,88,92,96,100,104,108,112,116,120] ?_
   refine gc (TU tp D DT _ _ _ _ jq hT.rd) ?_
   rintro _ _ ⟨rfl,rfl⟩
   refine qC [[(t,Db pool (.slice fU 1 cT) (.slice none 0 0) (.slice (some ⟨gL,oL,none⟩) 1 cL) (.slice (some ⟨gDD,oDD,none⟩) 1 cD) 1)],DL,DD,[(b9,av [.int .u64 pool,.slice (some ⟨gD0,oD0,none⟩) 1 cD0,.int .i64 0,.int .i64 j] 105)]] [0,4,8,12,16,20,24,28,32,36,40,44,48,52,56,60,64,68,72,76,80,84,88,93,96,103] ?_
   refine gn ?_
   rw [eQ,Cp]
   exact ⟨(j+1,ptr t,ls++[some ⟨a,ls.length,q⟩],_,DT,DL,_,DD,_,L++L1),⟨by omega,by rw [List.length_append,jw];rfl,IF.snoc (by rw [jw];exact hq),hL.snoc (by rw [Nat.zero_add,jw];exact hL1),(fun h=>by omega),(fun _=>⟨t,_,cT,_,cL,lL,_,cD,nK,rfl,hT,Dp,L8,rfl,rfl,rfl⟩)⟩,by simp only;omega,aq,_,aa⟩
 ·obtain rfl:j=w:=by omega
  obtain ⟨t,fU,cT,jS,cL,lL,Be,cD,nK,rfl,hT,Dp,L8,rfl,rfl,rfl⟩:=h1 oZ
  subst jw
  have hall:=IF.all
  have Bg:az [(lL,av ((ls.map iv)++List.replicate (ls.length - ls.length) (.pointer none)) 108)] 108 1 (.slice (some ⟨lL,0,none⟩) ls.length ls.length) ls.length (ls.map iv):=⟨by simp,fun u hu=>by
   obtain ⟨o,_,rfl⟩:=List.mem_map.1 hu
   rcases o with _ | x <;> rfl,.inr ⟨lL,ls.length,List.replicate (ls.length - ls.length) (.pointer none),rfl,rfl,by omega,by simp only [maxLen];omega,by rw [List.length_map,List.length_replicate];omega⟩⟩
  have gM:=IF.ok (R:=R) (n:=n) fun k hk=>vV k hk
  rw [IE] at hL
  have LG:=Dt p qs t pool tp pr n ls ok hall R C L hC gM hL fU cT DT hT jS cL DL _ ls.length _ Dp Bg (.slice Be 1 cD) (DD++[(nK,av ((qs.take ls.length).map ptr++List.replicate (ls.length - ls.length) (.pointer none)) 47)]) 1
  refine gc LG ?_
  rintro _ _ ⟨rfl,V,hV,rfl⟩
  have hrr:∀i x,ls[i]? = some (some x)->iL R n x.i (ring i):=fun i x hx=>by
   obtain ⟨a,q,h1,h2⟩:=IF i (List.getElem?_eq_some_iff.1 hx).1
   rw [hx] at h2;cases h2
   exact hr i (List.getElem?_eq_some_iff.1 hx).1
  refine gc (KA T fr p qs t pool tp pr n ls 1 V hV ok hall R C hC gM bW ring hrr U hU Ow eP oZ) ?_
  rintro _ _ ⟨V',RG,rfl⟩
  refine gz ?_
  exact fin ⟨t,V',ls,rfl,rfl,IF,RG,rfl⟩ aa
end Go.Proofs.YtcfioaeamfappaaGreatDoor
namespace Go.Sl
section
variable {β:Type}
def aH (M:List (Int×β))(q:Int):Option β:=(M.find? fun e=>e.1==q).map (·.2)
def ec:List (Int×β)->Int->β->List (Int×β)
 | [],q,v=>[(q,v)]
 | (p,u) :: L,q,v=>if p=q then (p,v) :: L else (p,u) :: ec L q v
def oB (M:List (Int×β))(q:Int):List (Int×β):=M.filter fun e=>e.1 != q
def eT (R:Value->β->Chunk->Prop):List (Int×Value)->List (Int×β)->Chunk->Prop
 | [],[],V=>V=[]
 | (q,v) :: L,(g,x) :: M,V=>q=g/\∃D V',R v x D/\eT R L M V'/\V=D++V'
 | _,_,_=>False
theorem bR {p q:Int}{x:β}{M:List (Int×β)}(h:p≠q):aH ((p,x) :: M) q=aH M q:=by simp [aH,h]
theorem dg {q:Int}{x:β}{M:List (Int×β)}:aH ((q,x) :: M) q=some x:=by simp [aH]
theorem ic (M:List (Int×β))(q p:Int)(x:β):aH (ec M q x) p=if q=p then some x else aH M p:=by
 induction M with
 | nil=>by_cases h:q=p <;> simp [ec,aH,h]
 | cons e r ih =>
  obtain ⟨k,y⟩:=e
  unfold ec
  split
  ·rename_i c;subst c
   by_cases h:k=p
   ·subst h;rw [dg,if_pos rfl]
   ·rw [bR h,if_neg h,bR h]
  ·rename_i c
   by_cases h:k=p
   ·subst h;rw [dg,if_neg (Ne.symm c),dg]
   ·rw [bR h,ih,bR h]
theorem Af (M:List (Int×β))(q p:Int):aH (oB M q) p=if q=p then none else aH M p:=by
 induction M with
 | nil=>simp [oB,aH]
 | cons e r ih =>
  obtain ⟨k,y⟩:=e
  unfold oB at *
  rw [List.filter_cons]
  by_cases c:k=q
  ·subst c
   rw [if_neg (by simp),ih]
   by_cases h:k=p
   ·rw [if_pos h,if_pos h]
   ·rw [if_neg h,if_neg h,bR h]
  ·rw [if_pos (by simpa using c)]
   by_cases h:k=p
   ·subst h;rw [dg,if_neg (Ne.symm c),dg]
   ·rw [bR h,ih,bR h]
theorem aI {M:List (Int×β)}{q:Int}{x:β}(h:aH M q=some x):(q,x)∈M:=by
 unfold aH at h
 cases hf:M.find? fun e=>e.1==q with
 | none=>rw [hf] at h;cases h
 | some e =>
  rw [hf] at h
  have h1:=List.mem_of_find?_eq_some hf
  have h2:=List.find?_some hf
  simp only [beq_iff_eq] at h2
  simp only [Option.map_some,Option.some.injEq] at h
  rw [<-h2,<-h];exact h1
theorem pV {M:List (Int×β)}{q:Int}(h:aH M q=none):q∉M.map (·.1):=by
 intro hm
 obtain ⟨e,he,rfl⟩:=List.mem_map.1 hm
 simp only [aH,Option.map_eq_none_iff,List.find?_eq_none] at h
 exact h e he (by simp)
theorem eU {M:List (Int×β)}(hn:(M.map (·.1)).Nodup){q:Int}{x:β}(h:(q,x)∈M):aH M q=some x:=by
 induction M with
 | nil=>cases h
 | cons e r ih =>
  obtain ⟨k,y⟩:=e
  rw [List.map_cons,List.nodup_cons] at hn
  rcases List.mem_cons.1 h with h | h
  ·cases h;exact dg
  ·rw [bR (by rintro rfl;exact hn.1 (List.mem_map_of_mem (f:=(·.1)) h))];exact ih hn.2 h
variable {R:Value->β->Chunk->Prop}
theorem eT.keys:∀ {L:List (Int×Value)} {M:List (Int×β)} {V:Chunk},eT R L M V->M.map (·.1)=L.map (·.1)
 | [],[],_,_=>rfl
 | [],_ :: _,_,h=>h.elim
 | _ :: _,[],_,h=>h.elim
 | (q,v) :: L,(g,x) :: M,V,h=>by
  obtain ⟨rfl,D,V', -,hV,rfl⟩:=h
  simp only [List.map_cons,hV.keys]
theorem eT.look (q:Int):∀ {L:List (Int×Value)} {M:List (Int×β)} {V:Chunk},eT R L M V ->
  (jP L q=none/\aH M q=none/\∀v x D,R v x D->eT R (gJ L q v) (ec M q x) (V++D)) \/
  ∃v x V1 D V2,jP L q=some v/\aH M q=some x/\V=V1++(D++V2)/\R v x D/\(∀x' D',R v x' D'->eT R L (ec M q x') (V1++(D'++V2)))/\∀v' x' D',R v' x' D'->eT R (gJ L q v') (ec M q x') (V1++(D'++V2))
 | [],[],V,h=>.inl ⟨rfl,rfl,fun v x D hD=>by obtain rfl:V=[]:=h;exact ⟨rfl,D,[],hD,rfl,by simp⟩⟩
 | [],_ :: _,_,h=>h.elim
 | _ :: _,[],_,h=>h.elim
 | (p,v) :: L,(g,x) :: M,V,h=>by
  obtain ⟨rfl,D,V',hD,hV,rfl⟩:=h
  by_cases c:p=q
  ·subst c
   refine .inr ⟨v,x,[],D,V',by simp [jP],dg,rfl,hD,fun x' D' eo => ?_,fun v' x' D' eo => ?_⟩
   ·simp only [ec,if_pos];exact ⟨rfl,D',V',eo,hV,rfl⟩
   ·simp only [ec,gJ,if_pos];exact ⟨rfl,D',V',eo,hV,rfl⟩
  ·rcases eT.look q hV with ⟨h1,h2,h3⟩ | ⟨u,y,V1,E,V2,h1,h2,rfl,h3,h4,h5⟩
   ·refine .inl ⟨by simpa [jP,c] using h1,by rw [bR c];exact h2,fun v' x' D' eo => ?_⟩
    simp only [gJ,ec,if_neg c]
    exact ⟨rfl,D,V'++D',hD,h3 v' x' D' eo,by rw [List.append_assoc]⟩
   ·refine .inr ⟨u,y,D++V1,E,V2,by simpa [jP,c] using h1,by rw [bR c];exact h2,by rw [List.append_assoc],h3,fun x' D' eo => ?_,fun v' x' D' eo => ?_⟩
    ·simp only [ec,if_neg c]
     exact ⟨rfl,D,_,hD,h4 x' D' eo,by rw [List.append_assoc]⟩
    ·simp only [gJ,ec,if_neg c]
     exact ⟨rfl,D,_,hD,h5 v' x' D' eo,by rw [List.append_assoc]⟩
theorem eT.cut {q:Int}{v:Value}:∀ {L:List (Int×Value)} {M:List (Int×β)} {V:Chunk},eT R L M V->(L.map (·.1)).Nodup->jP L q=some v ->
  ∃x V1 D V2,aH M q=some x/\V=V1++(D++V2)/\R v x D/\eT R (ir L q) (oB M q) (V1++V2)
 | [],_,V,_,_,hl=>by simp [jP] at hl
 | _ :: _,[],V,h,_,_=>h.elim
 | (p,u) :: L,(j,y) :: M,V,h,hn,hl=>by
  obtain ⟨rfl,D,V',hD,hV,rfl⟩:=h
  rw [List.map_cons,List.nodup_cons] at hn
  by_cases c:p=q
  ·subst c
   have e:u=v:=by simpa [jP] using hl
   subst e
   refine ⟨y,[],D,V',dg,rfl,hD, ?_⟩
   have h1:ir ((p,u) :: L) p=L:=by
    simp only [ir,List.filter_cons,bne_self_eq_false,Bool.false_eq_true,if_false]
    rw [List.filter_eq_self];intro e he;simpa using fun h':e.1=p=>hn.1 (by rw [<-h'];exact List.mem_map_of_mem (f:=(·.1)) he)
   have h2:oB ((p,y) :: M) p=M:=by
    simp only [oB,List.filter_cons,bne_self_eq_false,Bool.false_eq_true,if_false]
    rw [List.filter_eq_self];intro e he;simpa using fun h':e.1=p=>hn.1 (by rw [<-hV.keys,<-h'];exact List.mem_map_of_mem (f:=(·.1)) he)
   rw [h1,h2];exact hV
  ·obtain ⟨x,V1,E,V2,h1,rfl,h3,h4⟩:=eT.cut hV hn.2 (by simpa [jP,c] using hl)
   refine ⟨x,D++V1,E,V2,by rw [bR c];exact h1,by rw [List.append_assoc],h3, ?_⟩
   have e1:ir ((p,u) :: L) q=(p,u) :: ir L q:=by simp [ir,c]
   have e2:oB ((p,y) :: M) q=(p,y) :: oB M q:=by simp [oB,c]
   rw [e1,e2]
   exact ⟨rfl,D,_,hD,h4,by rw [List.append_assoc]⟩
end
structure Ob where
 used:Bool
 size:Nat
 root:Pt
 ay:List Pt
 index:List Pt
 fresh:List (Int×List UInt8)
 clean:Bool
def Ob.slot (o:Ob):eW:=⟨o.used,o.size,o.root⟩
def aT (size i:Nat):Nat:=min 1024 (size - i*1024)
def dH (n:Nat)(b:List UInt8):List UInt8:=b.take n++List.replicate (n - b.length) 0
theorem dQ (n:Nat)(b:List UInt8):(dH n b).length=n:=by simp [dH];omega
def Ob.raw (rd:Pt->List UInt8)(o:Ob)(i:Nat):List UInt8:=match aH o.fresh i with
 | some b=>b
 | none=>match o.ay[i]? with
  | some p=>if p=ah then [] else rd p
  | none=>[]
def Ob.fN (rd:Pt->List UInt8)(o:Ob)(i:Nat):List UInt8:=dH (aT o.size i) (o.raw rd i)
end Go.Sl
namespace Go.Proofs.YtcfioaeamfappaaGreatDoor
open Go.Sl
abbrev bS (tk:Nat)(vA:Value)(ra rd txg note:Nat):Obj:=av [ptr tk,vA,.map (some ra),.map (some rd),.int .u64 txg,.int .u64 note,.int .i64 0] 80
abbrev xu (u:Bool)(n:Nat)(x:Pt)(vP vI:Value)(r:Nat)(cl:Bool):Obj:=av [.bool u,.int .i64 n,.int .i64 x.top,.int .i64 x.at_,.int .i64 x.bytes,.int .u64 x.bj,.int .i64 x.kind,.int .u64 x.a,.int .u64 x.b,.int .u64 x.c,.int .u64 x.d,vP,vI,.map (some r),.bool cl] 91
def lE (v:Value)(b:List UInt8)(D:Chunk):Prop:=az D 5 1 v b.length (ak b)
def Pa (v:Value)(l:List Pt)(D:Chunk):Prop:=az D 85 9 v l.length (aO l)
def Wr (a:Nat)(o:Ob)(A:Chunk):Prop:=∃je cP DP dP cI DI r LF CF VF,
 az DP 85 9 (.slice je o.ay.length cP) o.ay.length (aO o.ay)/\az DI 85 9 (.slice dP o.index.length cI) o.index.length (aO o.index) /\
 Mp r .i64 LF CF/\eT lE LF o.fresh VF/\A=[(a,xu o.used o.size o.root (.slice je o.ay.length cP) (.slice dP o.index.length cI) r o.clean)]++(DP++(DI++(CF++VF)))
def w9 (v:Value)(o:Ob)(A:Chunk):Prop:=∃a,v=ptr a/\Wr a o A
end Go.Proofs.YtcfioaeamfappaaGreatDoor
namespace Go.Sl
theorem sv (pr:Bool){w:Nat}(hw:1<=w/\w<=5)(hp:pr=true->3<=w):8<=aN pr w 1024/\aN pr w 1024<=12:=by
 have h:w=1\/w=2\/w=3\/w=4\/w=5:=by omega
 cases pr
 ·simp only [aN,Bool.false_eq_true,if_false];decide
 ·have:=hp rfl
  rcases h with rfl | rfl | rfl | rfl | rfl
  ·omega
  ·omega
  ·decide
  ·decide
  ·decide
theorem iA (pr:Bool){w n:Nat}(hw:1<=w/\w<=5)(hn:324<=n/\n<=2048):1<=bD pr w n/\bD pr w n<=10240:=by
 have h:w=1\/w=2\/w=3\/w=4\/w=5:=by omega
 unfold bD
 split <;> rcases h with rfl | rfl | rfl | rfl | rfl <;> omega
end Go.Sl
namespace Go.Proofs.YtcfioaeamfappaaGreatDoor
open Go.Sl
set_option maxRecDepth 10000
set_option maxHeartbeats 4000000
section
variable (s t pool:Nat)(tp:Tp)(pr:Bool)(n:Nat)(ls:List (Option Lv))(no:Nat)(V:Chunk)(hV:jd t pool tp pr n ls no V)(ok:dE tp pr n ls.length)(dx:n<=2048)(vA:Value)(ra rd txg note:Nat)
theorem jx (k:Int):Ct 110 [.int .i64 k] [] fun u Bs=>u = .bool (decide (1<=k/\k<=112))/\Bs=[]:=by
 refine st Tryz.func110 fun w0 => ?_
 refine gg ?_ ?_ <;> intro h1
 ·refine gz ?_
  exact fin ⟨congrArg _ (decide_eq_decide.2 oZ),rfl⟩ aa
 ·refine gz ?_
  exact fin ⟨congrArg _ (decide_eq_false oZ).symm,rfl⟩ aa
include hV ok dx
theorem Ag:Ct 42 [ptr t] [V] fun u Bs=>∃ad c D,u = .slice ad 1 c/\az D 3 1 u 1 [.int .i64 (bD pr ls.length n:Nat)]/\Bs=[D,V]:=by
 have _:=dx
 have bx:=Ix t pool tp pr n ls no V hV ok
 refine st Tryz.func42 fun w0 => ?_
 refine gc (zT t pool tp pr n ls no V hV) ?_
 rintro _ _ ⟨ad,c,D,rfl,hD,rfl⟩
 refine gl [0,6,7] (fun ((i,v3,_):Nat×Value×Chunk)=>[(8,.int .i64 i),(3,v3)]) (fun (_,_,E)=>[E,V]) (fun (i,v3,E)=>i<=1/\(i=0->v3 = .slice none 0 0/\E=[])/\(i=1->∃ad c,v3 = .slice ad 1 c/\az E 3 1 v3 1 [.int .i64 (bD pr ls.length n:Nat)])) (fun (i,_)=>1 - i) (0,.slice none 0 0,[]) ⟨by omega,fun _=>⟨rfl,rfl⟩,fun h=>by omega⟩ ?_
 rintro ⟨i,v3,E⟩ ⟨hi,h0,h1⟩
 refine gi ?_ ?_ <;> intro bh
 ·obtain rfl:i=0:=by omega
  obtain ⟨rfl,rfl⟩:=h0 rfl
  refine gc bx ?_
  rintro _ _ ⟨rfl,rfl⟩
  refine gm ?_;intro b15
  refine gp ?_;intro fJ c3 E hE
  refine gn ?_
  exact ⟨(1,_,E),⟨by omega,fun h=>by omega,fun _=>⟨fJ,c3,rfl,hE⟩⟩,by simp only;omega,aq,_,aa⟩
 ·obtain rfl:i=1:=by omega
  obtain ⟨fJ,c3,rfl,hE⟩:=h1 rfl
  refine gz ?_
  exact fin ⟨fJ,c3,E,rfl,hE,rfl⟩ aa
theorem Y3:Ct 263 [ptr s] [[(s,bS t vA ra rd txg note)],V] fun u Bs=>∃ad c D,u = .slice ad 1 c/\az D 3 1 u 1 [.int .i64 (aN pr ls.length 1024:Nat)]/\Bs=[D,[(s,bS t vA ra rd txg note)],V]:=by
 have _:=dx
 have bx:=zU t pool tp pr n ls no V hV ok 1024 oZ
 refine st Tryz.func263 fun w0 => ?_
 refine gc (zT t pool tp pr n ls no V hV) ?_
 rintro _ _ ⟨ad,c,D,rfl,hD,rfl⟩
 refine gl [0,9,10] (fun ((i,v3,_):Nat×Value×Chunk)=>[(11,.int .i64 i),(3,v3)]) (fun (_,_,E)=>[E,V]) (fun (i,v3,E)=>i<=1/\(i=0->v3 = .slice none 0 0/\E=[])/\(i=1->∃ad c,v3 = .slice ad 1 c/\az E 3 1 v3 1 [.int .i64 (aN pr ls.length 1024:Nat)])) (fun (i,_)=>1 - i) (0,.slice none 0 0,[]) ⟨by omega,fun _=>⟨rfl,rfl⟩,fun h=>by omega⟩ ?_
 rintro ⟨i,v3,E⟩ ⟨hi,h0,h1⟩
 refine gi ?_ ?_ <;> intro bh
 ·obtain rfl:i=0:=by omega
  obtain ⟨rfl,rfl⟩:=h0 rfl
  refine gc bx ?_
  rintro _ _ ⟨rfl,rfl⟩
  refine gm ?_;intro b15
  refine gp ?_;intro fJ c3 E hE
  refine gn ?_
  exact ⟨(1,_,E),⟨by omega,fun h=>by omega,fun _=>⟨fJ,c3,rfl,hE⟩⟩,by simp only;omega,aq,_,aa⟩
 ·obtain rfl:i=1:=by omega
  obtain ⟨fJ,c3,rfl,hE⟩:=h1 rfl
  refine gz ?_
  exact fin ⟨fJ,c3,E,rfl,hE,rfl⟩ aa
theorem Ah:Ct 32 [ptr s] [[(s,bS t vA ra rd txg note)],V] fun u Bs=>u = .int .i64 (bD pr ls.length n / aN pr ls.length 1024:Nat)/\Bs=[[(s,bS t vA ra rd txg note)],V]:=by
 have bx:=Ix t pool tp pr n ls no V hV ok
 have ek:=zU t pool tp pr n ls no V hV ok 1024 oZ
 have h1:=sv pr ok.hw ok.hp
 have h2:=iA pr ok.hw ⟨ok.hn.1,dx⟩
 have hq:bD pr ls.length n / aN pr ls.length 1024<=10240:=Nat.le_trans (Nat.div_le_self _ _) h2.2
 have adJ:=zT t pool tp pr n ls no V hV
 generalize bD pr ls.length n=z at *
 generalize aN pr ls.length 1024=d at *
 refine st Tryz.func32 fun w0 => ?_
 refine gc adJ ?_
 rintro _ _ ⟨ad,c,D,rfl,hD,rfl⟩
 refine gl [0,9,10] (fun ((i,q):Nat×Nat)=>[(11,.int .i64 i),(3,.int .i64 q)]) (fun _=>[V]) (fun (i,q)=>i<=1/\q=if i=0 then 0 else z / d) (fun (i,_)=>1 - i) (0,0) ⟨by omega,rfl⟩ ?_
 rintro ⟨i,q⟩ ⟨hi,RK⟩
 refine gi ?_ ?_ <;> intro bh
 ·obtain rfl:i=0:=by omega
  obtain rfl:q=0:=RK
  refine gd [2,4,8,12,16,20,28,32,36,40,44,25,51,54,58,62] ?_
  refine gc bx ?_
  rintro _ _ ⟨rfl,rfl⟩
  refine gc ek ?_
  rintro _ _ ⟨rfl,rfl⟩
  refine gn ?_
  exact ⟨(1,z / d),⟨by omega,rfl⟩,by simp only;omega,aq,_,aa⟩
 ·obtain rfl:i=1:=by omega
  rw [if_neg oZ] at RK
  subst RK
  refine gz ?_
  exact fin ⟨rfl,rfl⟩ aa
theorem Pb:Ct 12 [ptr s] [[(s,bS t vA ra rd txg note)],V] fun u Bs=>u = .int .i64 (bD pr ls.length n / aN pr ls.length 1024 / 4 - 10:Nat)/\Bs=[[(s,bS t vA ra rd txg note)],V]:=by
 have fM:=Ah s t pool tp pr n ls no V hV ok dx vA ra rd txg note
 have h2:=iA pr ok.hw ⟨ok.hn.1,dx⟩
 have hq:bD pr ls.length n / aN pr ls.length 1024<=10240:=Nat.le_trans (Nat.div_le_self _ _) h2.2
 generalize bD pr ls.length n / aN pr ls.length 1024=z at *
 refine st Tryz.func12 fun w0 => ?_
 refine gc fM ?_
 rintro _ _ ⟨rfl,rfl⟩
 have hw:IntKind.i64.wrap (((z / 4:Nat):Int) - 10)=((z / 4:Nat):Int) - 10:=IntWalk.i64_in _ oZ
 refine go ?_
 rw [show max (0:Int) (((z / 4:Nat):Int) - 10)=((z / 4 - 10:Nat):Int) by omega]
 refine gz ?_
 exact fin ⟨rfl,rfl⟩ aa
theorem IH (x:Pt)(h0:x.top=0):Ct 75 [ptr s,x.agg] [[(s,bS t vA ra rd txg note)],V] fun u Bs=>u = .agg #[.int .i64 0,.int .i64 x.at_,.int .i64 (aN pr ls.length 1024:Nat)]/\Bs=[[(s,bS t vA ra rd txg note)],V]:=by
 have _:=dx
 have ek:=zU t pool tp pr n ls no V hV ok 1024 oZ
 obtain ⟨a1,a2,a3,a4,a5,a6,a7,a8,a9⟩:=x
 simp only at h0
 subst h0
 refine st Tryz.func75 fun w0 => ?_
 refine ga ?_;intro b3
 refine ga ?_;intro b4
 refine qC [[(s,bS t vA ra rd txg note)],[(b3,av [.int .i64 0,.int .i64 a2,.int .i64 a3,.int .u64 a4,.int .i64 a5,.int .u64 a6,.int .u64 a7,.int .u64 a8,.int .u64 a9] 85)]] [0,4,8,12,16,20,24,28,32,36,41,44,48,55] ?_
 refine gc ek ?_
 rintro _ _ ⟨rfl,rfl⟩
 refine gz ?_
 exact fin ⟨rfl,rfl⟩ aa
end
end Go.Proofs.YtcfioaeamfappaaGreatDoor
