/-
  17.
-/
import Derived.Test.YtpabnmeponmonaaGreatDoorZTopCrashes16
set_option maxRecDepth 10000
set_option maxHeartbeats 4000000
open List Go.Proofs.Tryz Go.Sl
namespace Go.Sl
section
variable {pr:Bool}{n N:Nat}{ls:List (Option Lv)}{R:Rk}{pm:List dg}{o:Ob}
variable (hI:pB ls)(hn:324<=n)(hw:1<=ls.length/\ls.length<=5)(hp:pr=true->3<=ls.length)(bu:∀i,i<ls.length->R.size i=n)(gV:dv pr ls.length n R pm)
include hI hn hw hp bu gV
theorem R9 {e:dg}(he:e∈pm)(hb:e.b=fL e.g)(hl:1<=e.g.length/\e.g.length<=16)(ho:∀y∈e.g,fK y=0/\y.Ok):RC R ls pr n (fE pm) e.x:=by
 have h1:=xB gV he
 have h2:=(gV.FB e he).NN hI hn hw hp bu
 exact ⟨by rw [h1,<-hb];exact h2,by rw [h1];exact hl,by rw [h1];exact ho⟩
theorem Std.ld (h:Std pm o):s8 R ls pr n (fE pm) o.root:=by
 rcases h.top with ⟨h0, -⟩ | ⟨h0,lv,h2,h3,h4,h5,⟨e,he,e1,e2,e3⟩,h6,h7⟩
 ·exact ⟨fun c=>absurd h0 c,fun c=>absurd h0 c,fun c=>absurd h0 c⟩
 ·have hu:fE pm o.root=lv:=by rw [<-e1,xB gV he,e3]
  refine ⟨fun _ => ?_,fun _=>by rw [hu];exact h4,fun _ y hy hy0 => ?_⟩
  ·have:=R9 hI hn hw hp bu gV he (by rw [e2,e3]) (by rw [e3];omega) (by rw [e3];exact h6)
   rw [e1] at this;exact this
  ·rw [hu] at hy
   obtain ⟨j,hj,c⟩:=Ii hy
   rcases h7 j hj with ⟨c1, -⟩ | ⟨c1,f,hf,f1,f2,f3,f4, -,f6, -⟩
   ·rw [c] at c1;exact absurd c1 hy0
   ·have:=R9 hI hn hw hp bu gV hf f2 ⟨f3,f4⟩ f6
    rw [f1,c] at this;exact this
end
theorem Sa {up:Pt->List Pt}:∀ {lv:List Pt},(∀j,j+1<lv.length->(ka up (cY lv j)).length=16)->∀j i,j<lv.length->i<16->cY (fC up lv) (16*j+i)=cY (ka up (cY lv j)) i
 | [],_,j,i,hj,_=>absurd hj (by simp)
 | x :: r,h,0,i,hj,hi=>by
  unfold fC
  rw [flatMap_cons,Nat.mul_zero,Nat.zero_add]
  show cY (ka up x++_) i=cY (ka up x) i
  by_cases c:r=[]
  ·subst c;simp [cY]
  ·have hx:(ka up x).length=16:=h 0 (by have:=length_pos_iff.2 c;simp;omega)
   unfold cY
   rw [getElem?_append_left oZ]
 | x :: r,h,j+1,i,hj,hi=>by
  have hx:(ka up x).length=16:=h 0 (by simp at hj;simp;omega)
  have ih:=Sa (up:=up) (lv:=r) (fun k hk=>h (k+1) (by simpa using hk)) j i (by simpa using hj) hi
  have e:cY (x :: r) (j+1)=cY r j:=by simp [cY]
  rw [e,<-ih]
  unfold fC cY
  rw [flatMap_cons,getElem?_append_right oZ,hx]
  congr 2;omega
theorem MX (up:Pt->List Pt)(i:Nat):cY (ka up ai) i=ai:=by
 unfold ka cY
 rw [if_pos rfl,getElem?_replicate]
 split <;> rfl
section
variable {pr:Bool}{w n N:Nat}{R:Rk}{pm:List dg}{o:Ob}
theorem uM (gV:dv pr w n R pm)(h:Std pm o)(u:Bool)(z:Nat):(∀i,cY (ml (fE pm) ⟨u,z,o.root⟩).aA i=cY o.aA i)/\Std pm (ml (fE pm) ⟨u,z,o.root⟩)/\(∀x,x≠ai->(x∈(ml (fE pm) ⟨u,z,o.root⟩).index↔x∈o.index))/\((ml (fE pm) ⟨u,z,o.root⟩).index=[]/\(ml (fE pm) ⟨u,z,o.root⟩).aA=[]\/(ml (fE pm) ⟨u,z,o.root⟩).index=o.index/\(ml (fE pm) ⟨u,z,o.root⟩).aA.length+16<=16*o.index.length):=by
 rcases h.top with ⟨h0,h1,h2⟩ | ⟨h0,lv,h2,h3,h4,h5,⟨e,he,e1,e2,e3⟩,h6,h7⟩
 ·have e:ml (fE pm) ⟨u,z,o.root⟩=⟨u,z,o.root,[],[],[],true⟩:=if_pos h0
  rw [e]
  refine ⟨fun i=>by rw [h1];exact iX (Nat.zero_le _),⟨h.ok,.inl ⟨h0,fun i=>iX (Nat.zero_le _),fun _ h=>by cases h⟩⟩,fun x hx=>⟨(fun h=>by cases h),fun h=>absurd (h2 x h) hx⟩,.inl ⟨rfl,rfl⟩⟩
 ·have hu:fE pm o.root=lv:=by rw [<-e1,xB gV he,e3]
  have e:ml (fE pm) ⟨u,z,o.root⟩=⟨u,z,o.root,fC (fE pm) lv,lv++[o.root],[],true⟩:=by unfold ml;rw [if_neg h0];simp only [hu]
  rw [e]
  have ac4:∀j,j<lv.length->(cY lv j=ai/\ka (fE pm) (cY lv j)=replicate 16 ai)\/(cY lv j≠ai/\∃f∈pm,f.x=cY lv j/\ka (fE pm) (cY lv j)=f.g/\f.g.length<=16/\(j+1<lv.length->f.g.length=16)/\∀i,i<16->cY f.g i=cY o.aA (16*j+i)):=fun j hj=>by
   rcases h7 j hj with ⟨c1, -⟩ | ⟨c1,f,hf,f1,f2,f3,f4,f5,f6,f7⟩
   ·exact .inl ⟨c1,if_pos c1⟩
   ·exact .inr ⟨c1,f,hf,f1,by unfold ka;rw [if_neg c1,<-f1,xB gV hf],f4,f5,f7⟩
  have h16:∀j,j+1<lv.length->(ka (fE pm) (cY lv j)).length=16:=fun j hj=>by
   rcases ac4 j oZ with ⟨-,c⟩ | ⟨-,f, -, -,c, -,c2, -⟩
   ·rw [c];simp
   ·rw [c];exact c2 hj
  have hle:(fC (fE pm) lv).length<=16*lv.length:=by
   have:∀(r:List Pt),(∀x∈r,(ka (fE pm) x).length<=16)->(fC (fE pm) r).length<=16*r.length:=by
    intro r
    induction r with
    | nil=>intro _;exact Nat.zero_le _
    | cons x r ih =>
     intro h
     have a1:=h x (mem_cons_self ..)
     have a2:=ih fun y hy=>h y (mem_cons_of_mem _ hy)
     simp only [fC,flatMap_cons,length_append,length_cons] at *
     omega
   refine this lv fun x hx => ?_
   obtain ⟨j,hj,rfl⟩:=Ii hx
   rcases ac4 j hj with ⟨-,c⟩ | ⟨-,f, -, -,c,c2, -⟩
   ·rw [c];simp
   ·rw [c];exact c2
  have ue:∀i,cY (fC (fE pm) lv) i=cY o.aA i:=fun i=>by
   by_cases c:i<16*lv.length
   ·have hj:i / 16<lv.length:=oZ
    have hm:=Nat.mod_lt i (show 0<16 by omega)
    have e:=Sa h16 (i / 16) (i % 16) hj hm
    rw [show 16*(i / 16)+i % 16=i by omega] at e
    rw [e]
    rcases h7 _ hj with ⟨c1,c2⟩ | ⟨c1,f,hf,f1,f2,f3,f4,f5,f6,f7⟩
    ·have:=c2 (i % 16) hm
     rw [show 16*(i / 16)+i % 16=i by omega] at this
     rw [c1,MX,this]
    ·have:=f7 (i % 16) hm
     rw [show 16*(i / 16)+i % 16=i by omega] at this
     rw [<-this]
     unfold ka
     rw [if_neg c1,<-f1,xB gV hf]
   ·rw [iX oZ,iX oZ]
  refine ⟨ue,⟨h.ok,.inr ⟨h0,lv,rfl,h3,h4,hle,⟨_,he,e1,e2,e3⟩,h6,fun j hj => ?_⟩⟩,fun x _=>by rw [h2],.inr ⟨h2.symm,by rw [h2,length_append];simp only [length_cons,length_nil];omega⟩⟩
  simp only [ue]
  exact h7 j hj
theorem pZ {l l':List Pt}(h:∀i,cY l i=cY l' i){x:Pt}(hx:x∈l)(h0:x≠ai):x∈l':=by
 obtain ⟨i, -,c⟩:=Ii hx
 rw [h] at c
 rcases mu (l:=l') (i:=i) with d | d
 ·rw [c] at d;exact absurd d h0
 ·rw [c] at d;exact d
theorem BN (gV:dv pr w n R pm)(h:Std pm o)(u:Bool)(z:Nat)(x:Pt):x∈eg (ml (fE pm) ⟨u,z,o.root⟩)↔x∈eg o:=by
 obtain ⟨h1, -,h3, -⟩:=uM gV h u z
 unfold eg
 rw [gX,gX,List.mem_append,List.mem_append]
 constructor
 ·rintro ⟨c | c,h0⟩
  ·exact ⟨.inl (pZ h1 c h0),h0⟩
  ·exact ⟨.inr ((h3 x h0).1 c),h0⟩
 ·rintro ⟨c | c,h0⟩
  ·exact ⟨.inl (pZ (fun i=>(h1 i).symm) c h0),h0⟩
  ·exact ⟨.inr ((h3 x h0).2 c),h0⟩
theorem Ye (gV:dv pr w n R pm)(h:dw pm N o)(hc:o.clean=true)(u:Bool)(z:Nat):dw pm N (ml (fE pm) ⟨u,z,o.root⟩):=by
 obtain ⟨c1,c2,c3,c4⟩:=h.cl hc
 obtain ⟨h1,h2,h3,h4⟩:=uM gV c2 u z
 obtain ⟨s1,s2,s3,s4,s5⟩:=eX (fE pm) ⟨u,z,o.root⟩
 have hz:∀(x:Pt) {p:Prop},(x≠ai->p)->x=ai\/p:=fun x p h=>by
  by_cases c:x=ai
  ·exact .inl c
  ·exact .inr (h c)
 have hN:o.index.length<=dh N 16+1:=by
  have:yf (Ij N)<=dh N 16+1:=by unfold yf Ij dh;split <;> omega
  omega
 have mU:(ml (fE pm) ⟨u,z,o.root⟩).aA.length<=Ij N:=by
  rcases h4 with ⟨-,e⟩ | ⟨e,e2⟩
  ·rw [e];exact Nat.zero_le _
  ·unfold Ij;omega
 refine ⟨fun x hx=>hz x fun h0=>(h.ptr x (pZ h1 hx h0)).resolve_left h0,by rw [s4];exact (fun _ h=>by cases h),by rw [s4];exact nodup_nil,mU,fun i hi=>by rw [h1];exact h.pz i hi, ?_,h.sz,by rw [s2];exact h.rt,fun _=>⟨s4,h2, ?_,fun x hx=>hz x fun h0=>(c4 x ((h3 x h0).1 hx)).resolve_left h0⟩⟩
 ·rcases h4 with ⟨e, -⟩ | ⟨e, -⟩
  ·rw [e];exact Nat.zero_le _
  ·rw [e];exact h.il
 ·rcases h4 with ⟨e, -⟩ | ⟨e, -⟩
  ·rw [e];exact Nat.zero_le _
  ·rw [e];exact c3
theorem J8 (gV:dv pr w n R pm)(h:Std pm o)(hf:o.fresh=[])(u:Bool)(z:Nat)(j:Nat):(ml (fE pm) ⟨u,z,o.root⟩).byte (ke pm) j=o.byte (ke pm) j:=by
 unfold Ob.byte
 rw [dx,dx,hf,(eX (fE pm) ⟨u,z,o.root⟩).2.2.2.1,(uM gV h u z).1]
theorem aaU {d:aw}(gV:dv pr w n R pm)(h:eh pm o d)(hi:dw pm N o)(hc:o.clean=true):eh pm (ml (fE pm) o.slot) d:=by
 obtain ⟨c1,c2, -, -⟩:=hi.cl hc
 obtain ⟨s1,s2,s3,s4,s5⟩:=eX (fE pm) o.slot
 refine ⟨by rw [s3];exact h.us,by rw [s1];exact h.size,by rw [s1];exact h.sz,by rw [s4];exact (fun _ h=>by cases h),fun j=>by rw [<-h.byte j];exact J8 gV c2 c1 o.used o.size j,fun i xl=>by rw [s4,<-h.ik i xl,c1],fun i xl ht => ?_⟩
 rw [show cY (ml (fE pm) o.slot).aA i=cY o.aA i from (uM gV c2 o.used o.size).1 i]
 exact h.born i xl ht
end
theorem Ip (cs:List (Int×Ob)){i:Nat}(hi:i<112):(slotsOf cs)[i]? = some (match aJ cs ((i+1:Nat):Int) with
 | some o=>o.slot
 | none=>eK):=by
 unfold slotsOf
 rw [getElem?_map,getElem?_range hi];rfl
theorem Sb {up:Pt->List Pt}:∀ {i:Nat} {l:List fv} (k:Nat),aJ (yg up i l) ((k:Nat):Int)=if i<k/\k<=i+l.length then (match l[k - i - 1]? with
 | some s=>if s.used then some (ml up s) else none
 | none=>none) else none
 | i,[],k=>by rw [if_neg (by simp only [length_cons,length_nil];omega)];rfl
 | i,s :: r,k=>by
  have ih:=Sb (up:=up) (i:=i+1) (l:=r) k
  unfold yg
  by_cases hu:s.used=true
  ·rw [if_pos hu,singleton_append]
   by_cases c:i+1=k
   ·subst c
    rw [dz,if_pos (by simp only [length_cons];omega),show i+1 - i - 1=0 by omega]
    simp [hu]
   ·rw [bV oZ,ih]
    by_cases d:i+1<k/\k<=i+1+r.length
    ·rw [if_pos d,if_pos (by simp only [length_cons];omega),show k - i - 1=(k - (i+1) - 1)+1 by omega,getElem?_cons_succ]
    ·rw [if_neg d,if_neg (by simp only [length_cons,length_nil];omega)]
  ·rw [if_neg hu,nil_append,ih]
   by_cases d:i+1<k/\k<=i+1+r.length
   ·rw [if_pos d,if_pos (by simp only [length_cons];omega),show k - i - 1=(k - (i+1) - 1)+1 by omega,getElem?_cons_succ]
   ·rw [if_neg d]
    by_cases c:i+1=k
    ·subst c
     rw [if_pos (by simp only [length_cons];omega),show i+1 - i - 1=0 by omega]
     simp [hu]
    ·rw [if_neg (by simp only [length_cons,length_nil];omega)]
theorem nR {up:Pt->List Pt}:∀ {i:Nat} {l:List fv},((yg up i l).map (·.1)).Nodup
 | i,[]=>nodup_nil
 | i,s :: r=>by
  have ih:=nR (up:=up) (i:=i+1) (l:=r)
  unfold yg
  split
  ·rw [singleton_append,map_cons,nodup_cons]
   refine ⟨fun h => ?_,ih⟩
   obtain ⟨e,he,e2⟩:=mem_map.1 h
   obtain ⟨j,s', -, -,rfl⟩:=rD he
   simp only at e2;omega
  ·exact ih
section
variable {pr:Bool}{n:Nat}{ls:List (Option Lv)}{R:Rk}{pm:List dg}{cs:List (Int×Ob)}{mo:Ob}{l:List aw}
theorem uL.lk (h:uL pm cs mo l)(k:Int):aJ (yg (fE pm) 0 (slotsOf cs)) k=(aJ cs k).map fun o=>ml (fE pm) o.slot:=by
 by_cases hk:1<=k/\k<=112
 ·obtain ⟨q,rfl⟩:∃q:Nat,k=((q+1:Nat):Int):=⟨(k - 1).toNat,by omega⟩
  rw [Sb,if_pos (by rw [ej];omega),show q+1 - 0 - 1=q by omega,Ip cs oZ]
  rcases h.rel.keys ((q+1:Nat):Int) with ⟨c, -⟩ | ⟨o,d,c1,c2,c3,c4⟩
  ·rw [c];rfl
  ·rw [c1]
   simp only
   rw [if_pos (show o.slot.used=true from c4.us)];rfl
 ·have h1:aJ cs k=none:=by
   rcases h.rel.keys k with ⟨c, -⟩ | ⟨o,d,c1,c2, -⟩
   ·exact c
   ·obtain ⟨c3,c4⟩:=fH c2
    have:=h.rel.no d c3
    omega
  rw [h1]
  refine kD fun hc => ?_
  obtain ⟨e,he,e2⟩:=mem_map.1 hc
  obtain ⟨j,s,h2, -,rfl⟩:=rD he
  have:=(List.getElem?_eq_some_iff.1 h2).1
  rw [ej] at this
  simp only at e2;omega
theorem uL.Yf (h:uL pm cs mo l):slotsOf (yg (fE pm) 0 (slotsOf cs))=slotsOf cs:=by
 unfold slotsOf
 refine map_congr_left fun i _ => ?_
 have:=h.lk ((i+1:Nat):Int)
 unfold slotsOf at this
 rw [this]
 cases aJ cs ((i+1:Nat):Int) with
 | none=>rfl
 | some o =>
  simp only [Option.map_some]
  obtain ⟨s1,s2,s3, -, -⟩:=eX (fE pm) o.slot
  unfold Ob.slot at *
  rw [s1,s2,s3]
theorem uL.used (h:uL pm cs mo l){s:fv}(hs:s∈slotsOf cs):s.Ok/\(s.used=true->∃k o,aJ cs k=some o/\s=o.slot):=by
 rcases tK hs with rfl | ⟨k,o,ho,rfl⟩
 ·exact ⟨wD,fun hc=>by cases hc⟩
 ·refine ⟨?_,fun _=>⟨k,o,ho,rfl⟩⟩
  rcases h.rel.keys k with ⟨c, -⟩ | ⟨o',d,c1,c2,c3,c4⟩
  ·rw [ho] at c;cases c
  ·rw [ho] at c1;cases c1
   exact ⟨(fun hu=>by have:=c4.us;rw [show o.slot.used=o.used from rfl,this] at hu;cases hu),c4.sz,c3.rt.1,c3.rt.2⟩
theorem uL.back {w:Nat}(h:uL pm cs mo l)(gV:dv pr w n R pm):uL pm (yg (fE pm) 0 (slotsOf cs)) (gR (fE pm) mo.root) l:=by
 have Lj:=h.mi.cl h.mc
 refine ⟨⟨fun k => ?_,nR,h.rel.ord,h.rel.no⟩,fun k o ho => ?_,(eX _ _).2.2.2.2,Ye gV h.mi h.mc false 8064,fun j => ?_⟩
 ·rw [h.lk]
  rcases h.rel.keys k with ⟨c1,c2⟩ | ⟨o,d,c1,c2,c3,c4⟩
  ·rw [c1];exact .inl ⟨rfl,c2⟩
  ·rw [c1]
   refine .inr ⟨_,d,rfl,c2, ?_,aaU gV c4 c3 (h.cl k o c1)⟩
   rw [show (ml (fE pm) o.slot).size=o.size from (eX _ _).1]
   exact Ye gV c3 (h.cl k o c1) o.used o.size
 ·rw [h.lk] at ho
  obtain ⟨p,hp,rfl⟩:=Option.map_eq_some_iff.1 ho
  exact (eX _ _).2.2.2.2
 ·rw [h.Yf,<-h.KR j]
  exact J8 gV Lj.2.1 Lj.1 false 8064 j
theorem uL.live {w:Nat}(h:uL pm cs mo l)(gV:dv pr w n R pm)(x:Pt):x∈aY (BH (fE pm) (gR (fE pm) mo.root) (slotsOf cs))↔x∈eg mo\/∃k o,aJ cs k=some o/\x∈eg o:=by
 have Lj:=h.mi.cl h.mc
 unfold BH aY
 rw [flatMap_cons,List.mem_append]
 refine or_congr (BN gV Lj.2.1 false 8064 x) ?_
 rw [mem_flatMap]
 constructor
 ·rintro ⟨e,he,hx⟩
  obtain ⟨f,hf,rfl⟩:=mem_map.1 he
  have:=mj nR hf
  rw [h.lk] at this
  obtain ⟨p,hp,e2⟩:=Option.map_eq_some_iff.1 this
  simp only at hx
  rw [<-e2] at hx
  rcases h.rel.keys f.1 with ⟨c, -⟩ | ⟨o',d,c1, -,c3, -⟩
  ·rw [hp] at c;cases c
  ·rw [hp] at c1;cases c1
   exact ⟨f.1,p,hp,(BN gV (c3.cl (h.cl _ _ hp)).2.1 p.used p.size x).1 hx⟩
 ·rintro ⟨k,o,ho,hx⟩
  have hl:=h.lk k
  rw [ho] at hl
  rcases h.rel.keys k with ⟨c, -⟩ | ⟨o',d,c1, -,c3, -⟩
  ·rw [ho] at c;cases c
  ·rw [ho] at c1;cases c1
   exact ⟨_,mem_map.2 ⟨_,aI hl,rfl⟩,(BN gV (c3.cl (h.cl _ _ ho)).2.1 o.used o.size x).2 hx⟩
theorem uL.afN (h:uL pm cs mo l){w:Nat}(gV:dv pr w n R pm):(List.range 8).flatMap ((gR (fE pm) mo.root).gB (ke pm))=fM (slotsOf cs):=by
 have hb:=(h.back gV).KR
 rw [h.Yf] at hb
 have hz:(gR (fE pm) mo.root).size=8064:=(eX _ _).1
 have hl:=xx (ke pm) (gR (fE pm) mo.root) hz
 have afO:∀m,m<=8->(List.range m).flatMap ((gR (fE pm) mo.root).gB (ke pm))=(gR (fE pm) mo.root).mO (ke pm) 0 (min (m*1024) 8064):=by
  intro m
  induction m with
  | zero=>intro _;rfl
  | succ m ih =>
   intro hm
   rw [range_succ,flatMap_append,ih oZ,flatMap_singleton,Ob.ou,hz]
   have e:=Ob.pS (ke pm) (gR (fE pm) mo.root) 0 (min (m*1024) 8064) (aV 8064 m)
   rw [show 0+min (m*1024) 8064=m*1024 by omega] at e
   rw [e]
   congr 1
   unfold aV;omega
 rw [afO 8 (Nat.le_refl _)]
 have hT:(fM (slotsOf cs)).length=8064:=by rw [lj,ej]
 apply ext_getElem
 ·rw [Ob.ot,hT];rfl
 ·intro i h1 h2
  have:=hb i
  rw [getElem?_eq_getElem h2] at this
  simp only [Ob.mO,getElem_map,getElem_range',Nat.one_mul,Nat.zero_add]
  exact this
end
section
variable {pr:Bool}{n:Nat}{R:Rk}{pm:List dg}
theorem Iq {w:Nat}{od:List (Int×List Pt)}(h:dv pr w n R pm)(hk:∀x∈aY od,∃e∈pm,e.x=x):OpP (bD pr w n) (aL pr w 1024) od:=by
 refine ⟨fun x hx => ?_,fun x hx => ?_,fun x hx => ?_,fun x hx y hy e => ?_⟩
 ·obtain ⟨e,he,rfl⟩:=hk x hx
  exact (h.FB e he).top
 ·obtain ⟨e,he,rfl⟩:=hk x hx
  rw [<-Int.natCast_mul]
  exact (h.FB e he).at_
 ·obtain ⟨e,he,rfl⟩:=hk x hx
  have:=(h.FB e he).fit
  exact_mod_cast this
 ·obtain ⟨f,hf,rfl⟩:=hk x hx
  obtain ⟨g,hg,rfl⟩:=hk y hy
  rw [h.one hf hg e]
variable {ls:List (Option Lv)}
theorem Ir (hI:pB ls)(hn:324<=n)(hw:1<=ls.length/\ls.length<=5)(hp:pr=true->3<=ls.length)(bu:∀i,i<ls.length->R.size i=n)(h:dv pr ls.length n R pm){o:Ob}{N:Nat}(ho:dw pm N o):∀x∈o.aA,x≠ai->Mf R ls pr n x (ke pm x):=fun x hx h0=>by
 rcases ho.ptr x hx with c | ⟨e,he,rfl⟩
 ·exact absurd c h0
 ·rw [xA h he]
  exact (h.FB e he).NN hI hn hw hp bu
end
theorem eh.mO {pm:List dg}{o:Ob}{d:aw}(h:eh pm o d):o.mO (ke pm) 0 o.size=d.b:=by
 unfold Ob.mO
 apply ext_getElem (by simp [h.size])
 intro i h1 h2
 rw [getElem_map,getElem_range',h.byte,getElem?_eq_getElem oZ]
 simp
theorem eh.part {pm:List dg}{o:Ob}{d:aw}(h:eh pm o d)(x y:Nat):o.mO (ke pm) x (dO o.size x y)=(d.b.drop x).take y:=by
 have hs:=h.size
 unfold Ob.mO
 apply ext_getElem (by simp [dO,hs])
 intro i h1 h2
 rw [getElem_map,getElem_range',h.byte,getElem_take,getElem_drop]
 simp only [length_map,length_range',dO] at h1
 rw [getElem?_eq_getElem oZ]
 simp
theorem bM.mem {pm:List dg}{all:List (Int×Ob)}{l:List aw}(h:bM pm all l)(k:Int):k∈all.map (·.1)↔k∈l.map fun d=>(d.no:Int):=by
 constructor
 ·intro hk
  obtain ⟨⟨q,o⟩,he,rfl⟩:=mem_map.1 hk
  rcases h.keys q with ⟨c, -⟩ | ⟨o',d, -,c, -⟩
  ·exact absurd (mem_map.2 ⟨_,he,rfl⟩) (q9 c)
  ·exact mem_map.2 ⟨d,(fH c).1,(fH c).2⟩
 ·intro hk
  obtain ⟨d,hd,rfl⟩:=mem_map.1 hk
  rcases h.keys d.no with ⟨-,c⟩ | ⟨o',d',c, -⟩
  ·rw [pY h.ord hd] at c;cases c
  ·exact mem_map.2 ⟨_,aI c,rfl⟩
theorem bM.dn {pm:List dg}{all:List (Int×Ob)}{l:List aw}(h:bM pm all l):(l.map fun d=>(d.no:Int)).Pairwise (· < ·):=by
 rw [pairwise_map]
 exact h.ord.imp fun h=>by omega
theorem bM.ks {pm:List dg}{all:List (Int×Ob)}{l:List aw}(h:bM pm all l){ks:List Int}(hp:ks.Perm (all.map (·.1)))(hs:ks.Pairwise (· <= ·)):ks=l.map fun d=>(d.no:Int):=by
 have hd:=h.dn
 have hn:(l.map fun d=>(d.no:Int)).Nodup:=hd.imp fun h=>by omega
 have hp2:(all.map (·.1)).Perm (l.map fun d=>(d.no:Int)):=(perm_ext_iff_of_nodup h.kn hn).2 h.mem
 exact (hp.trans hp2).eq_of_pairwise (fun a b _ _ h1 h2=>Int.le_antisymm h1 h2) hs (hd.imp fun h=>Int.le_of_lt h)
theorem bM.len {pm:List dg}{all:List (Int×Ob)}{l:List aw}(h:bM pm all l):all.length=l.length:=by
 have hn:(l.map fun d=>(d.no:Int)).Nodup:=h.dn.imp fun h=>by omega
 have:=((perm_ext_iff_of_nodup h.kn hn).2 h.mem).length_eq
 simpa using this
theorem eh.since {pm:List dg}{o:Ob}{d:aw}(h:eh pm o d)(g:Nat):cy o g=aX d g:=by
 unfold cy aX
 refine map_congr_left fun i hi => ?_
 have hi:=mem_range.1 hi
 unfold nH nI
 rw [h.ik i hi]
 cases ht:d.ik i with
 | true=>simp
 | false =>
  have hb:=h.born i hi ht
  unfold cY at hb
  cases hp:o.aA[i]? with
  | none=>rw [hp] at hb;simp only [Option.getD_none] at hb;rw [<-hb];simp [ai]
  | some x=>rw [hp] at hb;simp only [Option.getD_some] at hb;rw [<-hb];simp
theorem bM.size {pm:List dg}{all:List (Int×Ob)}{l:List aw}(h:bM pm all l)(k:Int):dH all k=iW l k:=by
 by_cases hk:1<=k/\k<=112
 ·rcases h.keys k with ⟨h1,h2⟩ | ⟨o,d,h1,h2, -,h3⟩
  ·rw [fA hk h1,rj hk h2]
  ·rw [eY hk h1,sY hk h2,h3.size]
 ·rw [ed hk,sX hk]
theorem ee (x:aw)(r:List aw)(k:Int):eM (x :: r) k=if (x.no:Int)=k then some x else eM r k:=by
 unfold eM
 by_cases c:(x.no:Int)=k
 ·rw [if_pos c,find?_cons_of_pos (by simpa using c)]
 ·rw [if_neg c,find?_cons_of_neg (by simpa using c)]
theorem xG {o:aw}{k:Int}(hk:(o.no:Int)≠k):∀(l:List aw) (d:Bool),eM (dT o d l) k=eM l k
 | [],d=>by
  cases d
  ·show eM [o] k=_
   rw [ee,if_neg hk]
  ·rfl
 | x :: r,d=>by
  have ih:=xG hk r (d||decide (o.no<=x.no))
  rw [dT]
  have e:eM ((if x.no=o.no then [] else [x])++dT o (d||decide (o.no<=x.no)) r) k=eM (x :: r) k:=by
   rw [ee]
   by_cases c:x.no=o.no
   ·rw [if_pos c,if_neg oZ,nil_append,ih]
   ·rw [if_neg c,singleton_append,ee,ih]
  split
  ·rw [singleton_append,ee,if_neg hk,e]
  ·rw [nil_append,e]
theorem zG {o:aw}:∀l:List aw,eM (dT o false l) o.no=some o
 | []=>by
  show eM [o] _=_
  rw [ee,if_pos rfl]
 | x :: r=>by
  rw [dT]
  by_cases c:o.no<=x.no
  ·rw [if_pos ⟨rfl,c⟩,singleton_append,ee,if_pos rfl]
  ·rw [if_neg (fun h=>c h.2),nil_append,if_neg oZ,singleton_append,ee,if_neg oZ,Bool.false_or,decide_eq_false c]
   exact zG r
theorem Wh (o:aw)(l:List aw)(k:Int):eM (dT o false l) k=if (o.no:Int)=k then some o else eM l k:=by
 by_cases c:(o.no:Int)=k
 ·rw [if_pos c,<-c];exact zG l
 ·rw [if_neg c];exact xG c l false
theorem ta {o:aw}:∀l:List aw,dT o true l=l.filter fun x=>decide (x.no≠o.no)
 | []=>rfl
 | x :: r=>by
  rw [dT,if_neg (by simp),nil_append,Bool.true_or,ta r]
  by_cases c:x.no=o.no
  ·rw [if_pos c,filter_cons_of_neg (by simp [c])];rfl
  ·rw [if_neg c,filter_cons_of_pos (by simp [c])];rfl
theorem FK {o:aw}:∀ {l:List aw},(l.Pairwise fun a b=>a.no<b.no)->(dT o false l).Pairwise fun a b=>a.no<b.no
 | [],_=>pairwise_singleton ..
 | x :: r,h=>by
  obtain ⟨h1,h2⟩:=pairwise_cons.1 h
  rw [dT]
  by_cases c:o.no<=x.no
  ·rw [if_pos ⟨rfl,c⟩,decide_eq_true c,Bool.false_or,ta]
   have hf:(r.filter fun x=>decide (x.no≠o.no)).Pairwise fun a b=>a.no<b.no:=h2.sublist filter_sublist
   have hm:∀y∈r.filter fun x=>decide (x.no≠o.no),x.no<y.no/\o.no<y.no:=fun y hy=>by
    have:=h1 y (mem_filter.1 hy).1
    omega
   rw [singleton_append,pairwise_cons]
   by_cases c2:x.no=o.no
   ·rw [if_pos c2,nil_append]
    exact ⟨fun y hy=>(hm y hy).2,hf⟩
   ·rw [if_neg c2,singleton_append,pairwise_cons]
    refine ⟨fun y hy => ?_,fun y hy=>(hm y hy).1,hf⟩
    rcases List.mem_cons.1 hy with rfl | hy
    ·omega
    ·exact (hm y hy).2
  ·rw [if_neg (fun h=>c h.2),nil_append,if_neg oZ,decide_eq_false c,Bool.false_or,singleton_append,pairwise_cons]
   refine ⟨fun y hy => ?_,FK h2⟩
   rcases lE hy with rfl | hy
   ·omega
   ·exact h1 y hy
theorem bM.put {pm:List dg}{all:List (Int×Ob)}{l:List aw}(h:bM pm all l){o:Ob}{d:aw}(hn:((eu all d.no o).map (·.1)).Nodup)(hd:1<=d.no/\d.no<=112)(hi:dw pm (dh o.size 1024) o)(hr:eh pm o d):bM pm (eu all d.no o) (dT d false l):=by
 refine ⟨fun k => ?_,hn,FK h.ord,fun x hx => ?_⟩
 ·rw [iI,Wh]
  by_cases c:(d.no:Int)=k
  ·rw [if_pos c,if_pos c]
   exact .inr ⟨o,d,rfl,rfl,hi,hr⟩
  ·rw [if_neg c,if_neg c]
   exact h.keys k
 ·rcases lE hx with rfl | hx
  ·exact hd
  ·exact h.no x hx
theorem Wi {l:List aw}(h:l.Pairwise fun a b=>a.no<b.no){i:Nat}{d:aw}(hi:l[i]? = some d)(k:Int):eM (l.take i++l.drop (i+1)) k=if (d.no:Int)=k then none else eM l k:=by
 induction l generalizing i with
 | nil=>simp at hi
 | cons x r ih =>
  obtain ⟨h1,h2⟩:=pairwise_cons.1 h
  rcases i with _ | i
  ·simp only [getElem?_cons_zero,Option.some.injEq] at hi
   subst hi
   rw [take_zero,nil_append,drop_succ_cons,drop_zero,ee]
   by_cases c:(x.no:Int)=k
   ·rw [if_pos c]
    refine EX fun y hy => ?_
    have:=h1 y hy
    omega
   ·rw [if_neg c,if_neg c]
  ·have jQ:r[i]? = some d:=by simpa using hi
   have:=h1 d (mem_of_getElem? jQ)
   rw [take_succ_cons,drop_succ_cons,cons_append,ee,ee,ih h2 jQ]
   by_cases c:(x.no:Int)=k
   ·rw [if_pos c,if_pos c,if_neg oZ]
   ·rw [if_neg c,if_neg c]
theorem bM.del {pm:List dg}{all:List (Int×Ob)}{l:List aw}(h:bM pm all l){i:Nat}{d:aw}(hi:l[i]? = some d):bM pm (pR all d.no) (l.take i++l.drop (i+1)):=by
 refine ⟨fun k => ?_, ?_, ?_,fun x hx=>h.no x ?_⟩
 ·rw [Bm,Wi h.ord hi]
  by_cases c:(d.no:Int)=k
  ·rw [if_pos c,if_pos c]
   exact .inl ⟨rfl,rfl⟩
  ·rw [if_neg c,if_neg c]
   exact h.keys k
 ·unfold pR
  exact h.kn.sublist (filter_sublist.map _)
 ·have e:l.take i++l.drop (i+1)=l.eraseIdx i:=(eraseIdx_eq_take_drop_succ ..).symm
  rw [e]
  exact h.ord.sublist (eraseIdx_sublist ..)
 ·rcases List.mem_append.1 hx with hx | hx
  ·exact mem_of_mem_take hx
  ·exact mem_of_mem_drop hx
theorem aaV {b x:List UInt8}{size a:Nat}(h:a+x.length<=size)(hb:b.length<=size)(j:Nat):((Mz b size a x)[j]?).getD (0:UInt8)=if a<=j/\j<a+x.length then (x[j - a]?).getD 0 else (b[j]?).getD 0:=by
 have hp:∀j:Nat,((dV size b)[j]?).getD (0:UInt8)=(b[j]?).getD 0:=fun j=>by
  unfold dV
  rw [take_of_length_le hb]
  by_cases c:j<b.length
  ·rw [getElem?_append_left c]
  ·rw [getElem?_append_right oZ,getElem?_eq_none (l:=b) oZ,getElem?_replicate]
   split <;> rfl
 have hl:=ec size b
 unfold Mz
 by_cases c1:j<a
 ·rw [if_neg oZ,append_assoc,getElem?_append_left (by rw [length_take];omega),getElem?_take,if_pos c1,hp]
 ·by_cases c2:j<a+x.length
  ·rw [if_pos oZ,getElem?_append_left (by rw [length_append,length_take];omega),getElem?_append_right (by rw [length_take];omega),length_take,show j - min a (dV size b).length=j - a by omega]
  ·rw [if_neg oZ,getElem?_append_right (by rw [length_append,length_take];omega),length_append,length_take,getElem?_drop,<-hp j]
   congr 2
   omega
theorem eh.write {pm:List dg}{o:Ob}{d:aw}(h:eh pm o d){a m:Nat}{b:List UInt8}(hb:b.length=m)(Mk:a+m<=65536){cf:List (Int×List UInt8)}(hn:(cf.map (·.1)).Nodup)
  (hf:∀q,aJ cf q=if df a m q then some (j8 (o.byte (ke pm)) a b (max o.size (a+m)) q.toNat) else aJ o.fresh q) (v:Value) :
  eh pm { o with size:=max o.size (a+m),fresh:=cf,clean:=false } { d with b:=Mz d.b (max d.b.length (a+m)) a b,ik:=rn d a m,v:=v }:=by
 have hs:=h.size
 have bu:=h.sz
 have Ji:(Mz d.b (max d.b.length (a+m)) a b).length=max d.b.length (a+m):=JV oZ
 refine ⟨h.us,by rw [Ji,hs],sOZ,fun e he => ?_,fun j => ?_,fun i hi => ?_,fun i hi ht => ?_⟩
 ·have hk:=fu hn he
  rw [hf] at hk
  split at hk
  ·rename_i ht
   have ht:=of_decide_eq_true ht
   have:=Option.some.inj hk
   rw [<-this,iV]
   unfold aV
   omega
  ·exact h.fp _ (aI hk)
 ·rw [aaV oZ oZ]
  have hold:=h.byte j
  have hq:((j / 1024:Nat):Int).toNat=j / 1024:=Int.toNat_natCast _
  unfold Ob.byte
  rw [dx]
  simp only [hf,hq]
  by_cases ht:df a m ((j / 1024:Nat):Int)=true
  ·have ht':=of_decide_eq_true ht
   rw [if_pos ht]
   simp only
   unfold j8
   by_cases hl:j % 1024<aV (max o.size (a+m)) (j / 1024)
   ·rw [getElem?_map,getElem?_range' hl]
    simp only [Option.map_some,Option.getD_some]
    unfold wrB
    rw [show j / 1024*1024+1*(j % 1024)=j by omega,hold]
   ·rw [getElem?_eq_none (by rw [length_map,length_range'];omega)]
    unfold aV at hl
    rw [if_neg oZ,getElem?_eq_none oZ]
  ·rw [if_neg ht]
   have rV:¬(a<=j/\j<a+b.length):=fun c=>ht (decide_eq_true oZ)
   rw [if_neg rV,<-hold]
   unfold Ob.byte
   rw [dx]
 ·simp only
  rw [hf]
  unfold rn
  by_cases ht:df a m (i:Int)=true
  ·rw [if_pos ht,ht];simp
  ·rw [if_neg ht,h.ik i hi];simp [ht]
 ·unfold rn at ht
  simp only [Bool.or_eq_false_iff] at ht
  exact h.born i hi ht.1
theorem dw.write {pm:List dg}{o:Ob}(h:dw pm (dh o.size 1024) o)(bu:o.size<=65536){a m:Nat}{b:List UInt8}{old:Nat->UInt8}(Mk:a+m<=65536){cf:List (Int×List UInt8)}(hn:(cf.map (·.1)).Nodup)
  (hf:∀q,aJ cf q=if df a m q then some (j8 old a b (max o.size (a+m)) q.toNat) else aJ o.fresh q) :
  dw pm (dh (max o.size (a+m)) 1024) { o with size:=max o.size (a+m),fresh:=cf,clean:=false }:=by
 have hN:dh o.size 1024<=dh (max o.size (a+m)) 1024:=by unfold dh;omega
 refine ⟨h.ptr,fun e he => ?_,hn,Nat.le_trans h.pl (by unfold Ij dh;unfold dh at hN;omega),fun i hi=>h.pz i oZ,h.il,by unfold dh;omega,h.rt,fun hc=>by cases hc⟩
 have hk:=fu hn he
 rw [hf] at hk
 split at hk
 ·rename_i ht
  have ht:=of_decide_eq_true ht
  have:=Option.some.inj hk
  rw [<-this,iV]
  unfold aV dh
  omega
 ·obtain ⟨h1,h2,h3⟩:=h.fk _ (aI hk)
  exact ⟨h1,by omega,h3⟩
theorem Is {β:Type}{L:List (Int×β)}(h:∀q,aJ L q=none):L=[]:=by
 cases L with
 | nil=>rfl
 | cons e r =>
  have:=h e.1
  rw [show e=(e.1,e.2) from rfl,dz] at this
  cases this
theorem dw.same {pm:List dg}{N:Nat}{o:Ob}(h:dw pm N o){cf:List (Int×List UInt8)}(hn:(cf.map (·.1)).Nodup)(hf:∀q,aJ cf q=aJ o.fresh q):dw pm N { o with fresh:=cf }:=by
 refine ⟨h.ptr,fun e he => ?_,hn,h.pl,h.pz,h.il,h.sz,h.rt,fun hc => ?_⟩
 ·have hk:=fu hn he
  rw [hf] at hk
  exact h.fk _ (aI hk)
 ·obtain ⟨c1,c2,c3,c4⟩:=h.cl hc
  exact ⟨Is fun q=>by rw [hf,c1];rfl,⟨c2.ok,c2.top⟩,c3,c4⟩
theorem eh.same {pm:List dg}{o:Ob}{d:aw}(h:eh pm o d){cf:List (Int×List UInt8)}(hn:(cf.map (·.1)).Nodup)(hf:∀q,aJ cf q=aJ o.fresh q)(k:Nat)(v:Value):eh pm { o with fresh:=cf } { d with no:=k,v:=v }:=by
 refine ⟨h.us,h.size,h.sz,fun e he => ?_,fun j => ?_,fun i hi => ?_,h.born⟩
 ·have hk:=fu hn he
  rw [hf] at hk
  exact h.fp _ (aI hk)
 ·rw [<-h.byte j]
  unfold Ob.byte
  rw [dx,dx,hf]
 ·rw [hf];exact h.ik i hi
theorem FL {b:List UInt8}{z:Nat}(j:Nat):((dV z b)[j]?).getD (0:UInt8)=if j<z then (b[j]?).getD 0 else 0:=by
 unfold dV
 by_cases c:j<z
 ·rw [if_pos c]
  by_cases c2:j<b.length
  ·rw [getElem?_append_left (by rw [length_take];omega),getElem?_take,if_pos c]
  ·rw [getElem?_append_right (by rw [length_take];omega),getElem?_eq_none (l:=b) oZ,getElem?_replicate]
   split <;> rfl
 ·rw [if_neg c,getElem?_eq_none (by rw [length_append,length_take,length_replicate];omega)]
  rfl
theorem eh.afP {pm:List dg}{o:Ob}{d:aw}(h:eh pm o d){z:Nat}(hz:z<o.size){cf:List (Int×List UInt8)}(hf:∀q,aJ cf q=j2 (ke pm) o z q)(j:Nat) :
  ({ o with size:=z,aA:=o.aA.take (aZ z),fresh:=cf,clean:=false }:Ob).byte (ke pm) j=((dV z d.b)[j]?).getD 0:=by
 rw [FL,<-h.byte j]
 have ue:∀i,cY (o.aA.take (aZ z)) i=if i<aZ z then cY o.aA i else ai:=fun i=>by
  unfold cY
  rw [getElem?_take]
  split <;> rfl
 unfold Ob.byte
 rw [dx,dx]
 simp only [hf,ue]
 unfold j2
 by_cases c:j / 1024<aZ z
 ·rw [if_pos (show ((j / 1024:Nat):Int)<aZ z by omega)]
  by_cases c2:0<z % 1024/\((j / 1024:Nat):Int)=(z / 1024:Nat)
  ·rw [if_pos c2]
   simp only
   have e:j / 1024=z / 1024:=oZ
   rw [getElem?_take,<-e,Ob.ou]
   by_cases c3:j % 1024<z % 1024
   ·rw [if_pos c3,if_pos oZ]
    unfold Ob.mO
    rw [getElem?_map,getElem?_range' (by unfold aV;omega)]
    simp only [Option.map_some,Option.getD_some]
    rw [show j / 1024*1024+1*(j % 1024)=j by omega]
    unfold Ob.byte
    rw [dx]
   ·rw [if_neg c3,if_neg oZ];rfl
  ·rw [if_neg c2,if_pos c,if_pos (show j<z by unfold aZ at c;omega)]
 ·rw [if_neg (show ¬((j / 1024:Nat):Int)<aZ z by omega),if_neg c,if_neg (show ¬j<z by unfold aZ at c;omega)]
  simp
theorem eh.cut {pm:List dg}{o:Ob}{d:aw}(h:eh pm o d){z:Nat}(hz:z<o.size){cf:List (Int×List UInt8)}(hn:(cf.map (·.1)).Nodup)(hf:∀q,aJ cf q=j2 (ke pm) o z q)(v:Value) :
  eh pm { o with size:=z,aA:=o.aA.take (aZ z),fresh:=cf,clean:=false } { yB d z 64 with b:=dV z d.b,v:=v }:=by
 have bu:=h.sz
 refine ⟨h.us,(ec z d.b).symm,sOZ,fun e he => ?_,h.afP hz hf,fun i hi => ?_,fun i hi ht => ?_⟩
 ·have hk:=fu hn he
  rw [hf] at hk
  unfold j2 at hk
  split at hk
  ·split at hk
   ·rename_i c c2
    rw [<-Option.some.inj hk,length_take,Ob.ou,Ob.ot]
    unfold aV
    omega
   ·exact h.fp _ (aI hk)
  ·cases hk
 ·simp only [yB]
  rw [hf,if_pos hi]
  unfold j2
  by_cases c:(i:Int)<aZ z
  ·rw [if_pos c,if_neg (show ¬z<=1024*i by unfold aZ at c;omega)]
   by_cases c2:0<z % 1024/\(i:Int)=(z / 1024:Nat)
   ·rw [if_pos c2,if_pos (show z<1024*i+1024 by omega)];rfl
   ·rw [if_neg c2,if_neg (show ¬z<1024*i+1024 by unfold aZ at c;omega)]
    exact h.ik i hi
  ·rw [if_neg c,if_pos (show z<=1024*i by unfold aZ at c;omega)];rfl
 ·simp only [yB] at ht ⊢
  rw [if_pos hi] at ht
  have ue:cY (o.aA.take (aZ z)) i=if i<aZ z then cY o.aA i else ai:=by
   unfold cY
   rw [getElem?_take]
   split <;> rfl
  rw [ue]
  by_cases c:i<aZ z
  ·have c1:¬z<=1024*i:=by unfold aZ at c;omega
   rw [if_neg c1] at ht
   rw [if_pos c,if_neg (fun x=>c1 x.2)]
   split at ht
   ·cases ht
   ·exact h.born i hi ht
  ·rw [if_neg c,if_pos ⟨hi,by unfold aZ at c;omega⟩];rfl
theorem eh.grow {pm:List dg}{o:Ob}{d:aw}(h:eh pm o d){z:Nat}(hz:o.size<=z)(Jj:z<=65536){cf:List (Int×List UInt8)}(hn:(cf.map (·.1)).Nodup)(hf:∀q,aJ cf q=aJ o.fresh q)(v:Value) :
  eh pm { o with size:=z,fresh:=cf,clean:=false } { d with b:=dV z d.b,v:=v }:=by
 have hs:=h.size
 refine ⟨h.us,(ec z d.b).symm,Jj,fun e he => ?_,fun j => ?_,fun i hi => ?_,h.born⟩
 ·have hk:=fu hn he
  rw [hf] at hk
  exact h.fp _ (aI hk)
 ·rw [FL]
  have e:(if j<z then (d.b[j]?).getD 0 else 0)=(d.b[j]?).getD 0:=by
   split
   ·rfl
   ·rw [getElem?_eq_none oZ];rfl
  rw [e,<-h.byte j]
  unfold Ob.byte
  rw [dx,dx]
  simp only [hf]
 ·rw [hf];exact h.ik i hi
theorem dw.cut {pm:List dg}{o:Ob}(h:dw pm (dh o.size 1024) o){z:Nat}(hz:z<o.size)(bu:o.size<=65536){rd:Pt->List UInt8}{cf:List (Int×List UInt8)}(hn:(cf.map (·.1)).Nodup)(hf:∀q,aJ cf q=j2 rd o z q) :
  dw pm (dh z 1024) { o with size:=z,aA:=o.aA.take (aZ z),fresh:=cf,clean:=false }:=by
 have xT:aZ z=dh z 1024:=rfl
 have ue:∀i,cY (o.aA.take (aZ z)) i=if i<aZ z then cY o.aA i else ai:=fun i=>by
  unfold cY
  rw [getElem?_take]
  split <;> rfl
 refine ⟨fun x hx=>h.ptr x (mem_of_mem_take hx),fun e he => ?_,hn, ?_,fun i hi => ?_,h.il,by unfold dh;omega,h.rt,fun hc=>by cases hc⟩
 ·have hk:=fu hn he
  rw [hf] at hk
  unfold j2 at hk
  split at hk
  ·rename_i c
   rw [xT] at c
   split at hk
   ·rename_i c2
    refine ⟨by omega,c, ?_⟩
    rw [<-Option.some.inj hk,length_take]
    omega
   ·obtain ⟨h1, -,h3⟩:=h.fk _ (aI hk)
    exact ⟨h1,c,h3⟩
  ·cases hk
 ·simp only [length_take]
  have:=(s9 (N:=dh z 1024) (by unfold dh;omega)).2
  omega
 ·simp only [ue]
  rw [if_neg (by rw [xT];omega)]
theorem dw.grow {pm:List dg}{o:Ob}(h:dw pm (dh o.size 1024) o){z:Nat}(hz:o.size<=z)(Jj:z<=65536){cf:List (Int×List UInt8)}(hn:(cf.map (·.1)).Nodup)(hf:∀q,aJ cf q=aJ o.fresh q):dw pm (dh z 1024) { o with size:=z,fresh:=cf,clean:=false }:=by
 have hN:dh o.size 1024<=dh z 1024:=by unfold dh;omega
 refine ⟨h.ptr,fun e he => ?_,hn,Nat.le_trans h.pl (by unfold Ij dh;unfold dh at hN;omega),fun i hi=>h.pz i oZ,h.il,by unfold dh;omega,h.rt,fun hc=>by cases hc⟩
 have hk:=fu hn he
 rw [hf] at hk
 obtain ⟨h1,h2,h3⟩:=h.fk _ (aI hk)
 exact ⟨h1,by omega,h3⟩
theorem Sc (pm:List dg):dw pm (dh bG.size 1024) bG:=by
 refine ⟨(fun x hx=>by cases hx),(fun e he=>by cases he),nodup_nil,Nat.zero_le _,fun i _=>by simp [cY,bG],Nat.zero_le _,by decide,⟨rfl,by refine ⟨?_, ?_, ?_, ?_, ?_, ?_, ?_, ?_, ?_⟩ <;> decide⟩,fun hc=>by cases hc⟩
theorem MY (pm:List dg)(k:Nat):eh pm bG (HX k):=by
 refine ⟨rfl,rfl,Nat.zero_le _,(fun e he=>by cases he),fun j => ?_,fun i _=>rfl,fun i _ _=>by simp [cY,bG,HX,ai]⟩
 unfold Ob.byte
 rw [dx]
 simp [bG,HX,cY,aJ]
def Wj:Ob:=⟨false,8064,ai,[],[],[],true⟩
theorem J9 (hz:∀x∈fM (replicate 112 eK),x=0):uL [] [] Wj []:=by
 have aO:fK ai=0/\ai.Ok:=⟨rfl,by refine ⟨?_, ?_, ?_, ?_, ?_, ?_, ?_, ?_, ?_⟩ <;> decide⟩
 refine ⟨⟨fun k=>.inl ⟨rfl,rfl⟩,nodup_nil,List.Pairwise.nil,(fun _ h=>by cases h)⟩,(fun k o h=>by cases h),rfl,⟨(fun x hx=>by cases hx),(fun e he=>by cases he),nodup_nil,Nat.zero_le _,fun i _=>by simp [cY,Wj],Nat.zero_le _,by decide,aO,fun _=>⟨rfl,⟨aO,.inl ⟨rfl,fun i=>by simp [cY,Wj],(fun x hx=>by cases hx)⟩⟩,Nat.zero_le _,(fun x hx=>by cases hx)⟩⟩,fun j => ?_⟩
 rw [tJ]
 have h1:Wj.byte (ke []) j=0:=by
  unfold Ob.byte
  rw [dx]
  simp [Wj,cY,aJ]
 rw [h1]
 cases h:(fM (replicate 112 eK))[j]? with
 | none=>rfl
 | some x=>rw [hz x (mem_of_getElem? h)];rfl
theorem FM:∀x∈fM (replicate 112 eK),x=0:=fun x hx=>by
 obtain ⟨s,hs,hx⟩:=mem_flatMap.1 hx
 rw [(mem_replicate.1 hs).2] at hx
 have h:(fx eK).all (fun x=>x==0)=true:=by decide +kernel
 exact by simpa using all_eq_true.1 h x hx
theorem Sd {d d':aw}(e:d'.nv=d.nv):d'.no=d.no/\d'.b=d.b/\d'.born=d.born/\d'.ik=d.ik:=⟨show d'.nv.no=d.nv.no by rw [e],show d'.nv.b=d.nv.b by rw [e],show d'.nv.born=d.nv.born by rw [e],show d'.nv.ik=d.nv.ik by rw [e]⟩
theorem aaW {l l':List aw}(e:l'.map aw.nv=l.map aw.nv)(k:Int):(eM l' k).map aw.nv=(eM l k).map aw.nv:=by
 induction l generalizing l' with
 | nil =>
  obtain rfl:l'=[]:=by simpa using e
  rfl
 | cons x r ih =>
  cases l' with
  | nil=>simp at e
  | cons y s =>
   simp only [map_cons,List.cons.injEq] at e
   obtain ⟨h1,h2⟩:=e
   rw [ee,ee,(Sd h1).1]
   split
   ·simp only [Option.map_some,h1]
   ·exact ih h2
theorem eh.nv {pm:List dg}{o:Ob}{d d':aw}(h:eh pm o d)(e:d'.nv=d.nv):eh pm o d':=by
 obtain ⟨-,h2,h3,h4⟩:=Sd e
 exact ⟨h.us,by rw [h2];exact h.size,h.sz,h.fp,fun j=>by rw [h2];exact h.byte j,fun i hi=>by rw [h4];exact h.ik i hi,fun i hi ht=>by rw [h3];exact h.born i hi (by rw [<-h4];exact ht)⟩
theorem bM.nv {pm:List dg}{all:List (Int×Ob)}{l l':List aw}(h:bM pm all l)(e:l'.map aw.nv=l.map aw.nv):bM pm all l':=by
 refine ⟨fun k => ?_,h.kn, ?_,fun d hd => ?_⟩
 ·have hk:=aaW e k
  rcases h.keys k with ⟨h1,h2⟩ | ⟨o,d,h1,h2,h3,h4⟩
  ·rw [h2] at hk
   exact .inl ⟨h1,by simpa using hk⟩
  ·rw [h2] at hk
   cases hl:eM l' k with
   | none=>rw [hl] at hk;simp at hk
   | some d' =>
    rw [hl] at hk
    exact .inr ⟨o,d',h1,rfl,h3,h4.nv (Option.some.inj hk)⟩
 ·have h1:(l.map aw.nv).Pairwise fun a b=>a.no<b.no:=pairwise_map.2 h.ord
  rw [<-e] at h1
  have h2:=pairwise_map.1 h1
  exact h2
 ·have h1:d.nv∈l.map aw.nv:=by rw [<-e];exact mem_map_of_mem hd
  obtain ⟨d',h2,h3⟩:=mem_map.1 h1
  rw [<-(Sd h3).1]
  exact h.no d' h2
theorem uL.nv {pm:List dg}{cs:List (Int×Ob)}{mo:Ob}{l l':List aw}(h:uL pm cs mo l)(e:l'.map aw.nv=l.map aw.nv):uL pm cs mo l':=⟨h.rel.nv e,h.cl,h.mc,h.mi,h.KR⟩
theorem FN {l l':List aw}(e:l'.map aw.nv=l.map aw.nv):aT l'=aT l:=by
 have:∀l:List aw,aT l=((l.map aw.nv).map fun o=>cost o.b.length).sum:=fun l=>by rw [map_map];rfl
 rw [this,this,e]
theorem ew (x:aw)(r:List aw):aT (x :: r)=cost x.b.length+aT r:=rfl
theorem xH (x:aw)(r:List aw)(k:Int):iU (x :: r) k=if (x.no:Int)=k then cost x.b.length else iU r k:=by
 unfold iU
 rw [ee]
 split
 ·rename_i h;split at h <;> simp_all
 ·rename_i h;split at h <;> simp_all
theorem zH (k:Nat):∀l:List aw,aT (l.filter fun x=>decide (x.no≠k))+iU l k<=aT l
 | []=>by simp [aT,iU,eM]
 | x :: r=>by
  have ih:=zH k r
  rw [xH,ew]
  by_cases c:x.no=k
  ·rw [filter_cons_of_neg (by simp [c]),if_pos oZ];omega
  ·rw [filter_cons_of_pos (by simp [c]),if_neg oZ,ew];omega
theorem zI (o:aw):∀l:List aw,aT (dT o false l)+iU l o.no<=aT l+cost o.b.length
 | []=>by simp [dT,aT,iU,eM]
 | x :: r=>by
  have ih:=zI o r
  have hf:=zH o.no r
  rw [dT,xH,ew]
  by_cases c:o.no<=x.no
  ·rw [if_pos ⟨rfl,c⟩,decide_eq_true c,Bool.false_or,ta,singleton_append,ew]
   by_cases c2:x.no=o.no
   ·rw [if_pos c2,if_pos oZ,nil_append];omega
   ·rw [if_neg c2,if_neg oZ,singleton_append,ew];omega
  ·rw [if_neg (fun h=>c h.2),decide_eq_false c,Bool.false_or,nil_append,if_neg oZ,if_neg oZ,singleton_append,ew];omega
theorem MZ {l:List aw}{o:aw}{k:Int}{z room:Nat}(h:cQ l k z room=true)(hk:(o.no:Int)=k)(hz:o.b.length=z):aT (dT o false l)<=room:=by
 have h1:=zI o l
 rw [hz,hk] at h1
 have h2:=of_decide_eq_true h
 omega
theorem zJ:∀(l:List aw) (i:Nat),aT (l.take i++l.drop (i+1))<=aT l
 | [],i=>by simp [aT]
 | x :: r,0=>by rw [take_zero,nil_append,drop_succ_cons,drop_zero,ew];omega
 | x :: r,i+1=>by
  have ih:=zJ r i
  rw [take_succ_cons,drop_succ_cons,cons_append,ew,ew];omega
theorem rI (T:Nat)(l:List aw):aT (l.map (jC T))=aT l:=by
 unfold aT
 rw [map_map]
 congr 1
 refine map_congr_left fun d _ => ?_
 simp only [Function.comp]
 rw [show (jC T d).b=d.b from (cA _ d 64).2.1]
theorem It:∀(l:List Nat) (R:Rk),R.off=false->∀w∈(R.run (l.map .f)).ws,w∈R.ws/\w.d∉l
 | [],R,_,w,h=>⟨h,by simp⟩
 | d :: l,R,ho,w,h=>by
  rw [map_cons,Rk.dC] at h
  have e:R.ev (.f d)={ R with ds:=R.ds.modify d fun x=>{ x with bP:=x.now },ws:=R.ws.filter fun w=>w.d != d }:=by
   show (if R.off then R else _)=_
   rw [if_neg (by simp [ho])]
  obtain ⟨h1,h2⟩:=It l (R.ev (.f d)) (by rw [e];exact ho) w h
  rw [e] at h1
  obtain ⟨h3,h4⟩:=mem_filter.1 h1
  exact ⟨h3,by rw [List.mem_cons];exact fun hc=>hc.elim (fun e=>by simp [e] at h4) h2⟩
theorem xI {R:Rk}{ls:List (Option Lv)}(hI:pB ls)(hR:(R.run (de ls)).Ok)(hd:(R.run (de ls)).ds.length=ls.length)(ho:R.off=false):(R.run (de ls)).ws=[]:=by
 rw [BA hI] at *
 refine eq_nil_iff_forall_not_mem.2 fun w hw => ?_
 obtain ⟨h1,h2⟩:=It _ R ho w hw
 have h3:=(hR.ws w hw).1
 refine h2 (mem_range.2 ?_)
 unfold Rk.size at h3
 rcases Nat.lt_or_ge w.d ls.length with c | c
 ·omega
 ·rw [getElem?_eq_none oZ] at h3;simp at h3
theorem Wk {R:Rk}(hR:R.Ok)(i a:Nat):(R.now i a).length=128\/R.now i a=[]:=by
 unfold Rk.now
 cases h:R.ds[i]? with
 | none=>exact .inr rfl
 | some d =>
  simp only [Option.bind_some]
  cases h2:d.now[a]? with
  | none=>exact .inr rfl
  | some s=>exact .inl ((hR.sec d (mem_of_getElem? h)).2 s (mem_of_getElem? h2))
theorem Se:ig []=false:=by
 unfold ig
 rw [show decide (1<=fN []/\fN []<=281474976710656)=false from decide_eq_false fun h=>by
  have e:fN []=0:=by decide
  omega,Bool.and_false]
theorem aaX {R:Rk}(hR:R.Ok)(ls:List (Option Lv))(k:Nat):(xp R ls k).length=88:=by
 have:∀(l:List (Option Lv)) (b:Nat×List UInt8),b.2.length=88->(l.foldl (fun b o=>match o with | some x=>xo b (R.now x.i (18+k)) | none=>b) b).2.length=88:=by
  intro l
  induction l with
  | nil=>intro b hb;exact hb
  | cons o l ih =>
   intro b hb
   rw [foldl_cons]
   refine ih _ ?_
   rcases o with _ | x
   ·exact hb
   ·simp only [xo]
    split
    ·rename_i h
     rcases Wk hR x.i (18+k) with h1 | h1
     ·exact AQ h1
     ·rw [h1,Se] at h;simp at h
    ·exact hb
 unfold xp
 split
 ·simp
 ·unfold rh;exact this _ _ (by simp)
theorem Sf {tp:Tp}(h:tp.nJ){k:Nat}(hk:k<tp.leaves.toNat):wm ⟨11,[tp],0,k⟩=0/\fj.Ok ⟨11,[tp],0,k⟩:=by
 obtain ⟨h1,h2,h3,h4⟩:=h
 have hm:tp.made:=⟨h1,by omega,by omega⟩
 refine ⟨if_pos ⟨by simp,by simp,by simp,by simp,by simp, ?_,fun t ht=>by rw [mem_singleton.1 ht];exact hm⟩,by show 11<18446744073709551616;decide,by simp,sOZ,fun t ht=>by rw [mem_singleton.1 ht];exact ⟨by omega,by omega,by omega⟩⟩
 show (k:Int)<tp.leaves
 omega
section
variable {pr:Bool}{n:Nat}{R:Rk}{pm:List dg}{ls:List (Option Lv)}
theorem dw.live {o:Ob}{N:Nat}(h:dw pm N o)(hc:o.clean=true):∀x∈eg o,∃e∈pm,e.x=x:=fun x hx=>by
 obtain ⟨h1,h0⟩:=gX.1 hx
 rcases List.mem_append.1 h1 with h1 | h1
 ·rcases h.ptr x h1 with c | c
  ·exact absurd c h0
  ·exact c
 ·rcases (h.cl hc).2.2.2 x h1 with c | c
  ·exact absurd c h0
  ·exact c
theorem uL.has {cs:List (Int×Ob)}{mo:Ob}{l:List aw}(h:uL pm cs mo l){k:Int}{o:Ob}(hk:aJ cs k=some o):∃d,eM l k=some d/\dw pm (dh o.size 1024) o/\eh pm o d/\o.clean=true:=by
 rcases h.rel.keys k with ⟨c, -⟩ | ⟨o',d,c,c2,c3,c4⟩
 ·rw [hk] at c;cases c
 ·rw [hk] at c;cases c
  exact ⟨d,c2,c3,c4,h.cl k o hk⟩
structure Opn (pr:Bool)(n:Nat)(R:Rk)(ls:List (Option Lv))(pm:List dg)(cs:List (Int×Ob))(mo:Ob):Prop where
 root:s8 R ls pr n (fE pm) mo.root
 NN:∀x∈(gR (fE pm) mo.root).aA,x≠ai->Mf R ls pr n x (ke pm x)
 so:∀s∈slotsOf cs,s.Ok
 KR:(List.range 8).flatMap ((gR (fE pm) mo.root).gB (ke pm))=fM (slotsOf cs)
 ob:∀s∈slotsOf cs,s.used=true->s8 R ls pr n (fE pm) s.root
 op:OpP (bD pr ls.length n) (aL pr ls.length 1024) (BH (fE pm) (gR (fE pm) mo.root) (slotsOf cs))
theorem uL.opn (hI:pB ls)(hn:324<=n)(hw:1<=ls.length/\ls.length<=5)(hp:pr=true->3<=ls.length)(bu:∀i,i<ls.length->R.size i=n){cs:List (Int×Ob)}{mo:Ob}{l:List aw}(h:uL pm cs mo l)(gV:dv pr ls.length n R pm):Opn pr n R ls pm cs mo:=by
 have hb:=h.back gV
 refine ⟨Std.ld hI hn hw hp bu gV (h.mi.cl h.mc).2.1,Ir hI hn hw hp bu gV hb.mi,fun s hs=>(h.used hs).1,h.afN gV,fun s hs hu => ?_,Iq gV fun x hx => ?_⟩
 ·obtain ⟨k,o,h1,rfl⟩:=(h.used hs).2 hu
  obtain ⟨d, -,h2, -,h4⟩:=h.has h1
  exact Std.ld hI hn hw hp bu gV (h2.cl h4).2.1
 ·rcases (h.live gV x).1 hx with c | ⟨k,o,h1,c⟩
  ·exact h.mi.live h.mc x c
  ·obtain ⟨d, -,h2, -,h4⟩:=h.has h1
   exact h2.live h4 x c
end
structure Qt (pool:Nat)(tp:Tp)(n w:Nat)(ring:Nat->Option Ub)(R:Rk):Prop where
 on:R.on
 sz:∀i,i<w->R.live i/\R.size i=n
 lb:∀k,k<w->R.now k (ez n 0)=whole (dW ⟨pool,[tp],0,k⟩)
 rg:∀i,i<w->iD R n i fun _ j=>ring j
 q:∀i,i<w->∀a,a<18\/274<=a->R.pl i a=R.now i a
theorem jf {n k j:Nat}(hk:k<4)(hj:j<8)(hn:324<=n):ez n k+1+j<n/\(ez n k+1+j<18\/n - 18<=ez n k+1+j)/\(ez n k+1+j<18\/274<=ez n k+1+j)/\ez n k+1+j≠0:=by
 obtain rfl | rfl | rfl | rfl:k=0\/k=1\/k=2\/k=3:=oZ
 all_goals
  simp only [ez]
  omega
theorem Iu {n k j k' j':Nat}(hk:k<4)(nD:k'<4)(hj:j<8)(Af:j'<8)(hn:324<=n)(h:j≠j'):ez n k+1+j≠ez n k'+1+j':=by
 obtain rfl | rfl | rfl | rfl:k=0\/k=1\/k=2\/k=3:=oZ
 all_goals
  obtain rfl | rfl | rfl | rfl:k'=0\/k'=1\/k'=2\/k'=3:=oZ
  all_goals
   simp only [ez]
   omega
theorem iD.congr {R R':Rk}{n i:Nat}{ring:Nat->Nat->Option Ub}(hn:324<=n)(h:iD R n i ring)(e:∀a,a<18\/n - 18<=a->R'.now i a=R.now i a):iD R' n i ring:=fun k j hk hj=>by
 have:=h k j hk hj
 rw [e _ (jf hk hj hn).2.1]
 exact this
section
variable {ls:List (Option Lv)}(hI:pB ls)
include hI
theorem fc {R:Rk}(i a:Nat):(R.run (de ls)).now i a=R.now i a:=by
 rw [BA hI]
 exact bI fun b h=>by
  obtain ⟨x, -,hx⟩:=mem_map.1 h
  cases hx
theorem p3 {R:Rk}(db:R.on){i:Nat}(hi:i<ls.length)(a:Nat):(R.run (de ls)).pl i a=R.now i a:=by
 rw [BA hI]
 exact Rl db (mem_range.2 hi)
theorem Qt.mark {pool:Nat}{tp:Tp}{n:Nat}{ring:Nat->Option Ub}{R R2:Rk}(hn:324<=n)(h:Qt pool tp n ls.length ring R)(ho1:R2.on)(hz:∀i,R2.size i=R.size i)(hv:∀i,R2.live i↔R.live i)(hg:∀i a,a<18\/n - 18<=a->R2.now i a=R.now i a){u:Ub}(hu:wq u=0/\u.Ok) :
  Qt pool tp n ls.length (upd ring (u.ae % 8) (some u)) ((R2.run (eA n ls u)).run (de ls))/\(∀i a,i<ls.length->((R2.run (eA n ls u)).run (de ls)).pl i a=((R2.run (eA n ls u)).run (de ls)).now i a) /\
   ∀i a,(18<=a/\a<n - 18)->((R2.run (eA n ls u)).run (de ls)).now i a=R2.now i a:=by
 have xS:(R2.run (eA n ls u)).on:=ho1.run _
 have Sg:u.ae % 8<8:=Nat.mod_lt _ oZ
 have Iw:∀i a,(∀k,k<4->a≠ez n k+1+u.ae % 8)->((R2.run (eA n ls u)).run (de ls)).now i a=R2.now i a:=fun i a ha=>by
  rw [fc hI,bI (fun b hb=>by
   obtain ⟨-, -,k,hk,e⟩:=(gN hI).1 hb
   exact ha k hk e)]
 have hall:∀i a,i<ls.length->((R2.run (eA n ls u)).run (de ls)).pl i a=((R2.run (eA n ls u)).run (de ls)).now i a:=fun i a hi=>by
  rw [p3 hI xS hi,fc hI]
 have bu:∀i,((R2.run (eA n ls u)).run (de ls)).size i=R.size i:=fun i=>by rw [Rk.bH,Rk.bH,hz]
 refine ⟨⟨xS.run _,fun i hi=>⟨?_,by rw [bu];exact (h.sz i hi).2⟩,fun k hk => ?_,fun i hi k j hk hj => ?_,fun i hi a _=>hall i a hi⟩,hall,fun i a ha=>Iw i a fun k hk => ?_⟩
 ·rw [Rk.di,Rk.di,hv]
  exact (h.sz i hi).1
 ·rw [Iw k (ez n 0) (fun k' nD=>fun c=>(jf nD Sg hn).2.2.2 (by rw [<-c];rfl)),hg k _ (.inl (by simp only [ez];omega))]
  exact h.lb k hk
 ·by_cases P8:j=u.ae % 8
  ·subst P8
   have e:upd ring (u.ae % 8) (some u) (u.ae % 8)=some u:=if_pos rfl
   simp only [e]
   refine ⟨?_,hu⟩
   rw [fc hI]
   refine fP ho1 (by rw [hz,(h.sz i hi).2];exact (jf hk hj hn).1) (fun b' hb=>((gN hI).1 hb).2.1) ((gN hI).2 ⟨hi,rfl,k,hk,rfl⟩)
  ·have e:upd ring (u.ae % 8) (some u) j=ring j:=if_neg P8
   simp only [e]
   have:=h.rg i hi k j hk hj
   rw [Iw i _ (fun k' nD=>Iu hk nD hj Sg hn P8),hg i _ (jf hk hj hn).2.1]
   exact this
 ·have:=jf hk Sg hn
  omega
theorem Qt.BO {pool:Nat}{tp:Tp}{n:Nat}{ring:Nat->Option Ub}{R R2:Rk}(hn:324<=n)(h:Qt pool tp n ls.length ring R)(hg:rF n R R2){u:Ub}(hu:wq u=0/\u.Ok) :
  Qt pool tp n ls.length (upd ring (u.ae % 8) (some u)) (((R2.run (de ls)).run (eA n ls u)).run (de ls))/\(∀i a,i<ls.length->(((R2.run (de ls)).run (eA n ls u)).run (de ls)).pl i a=(((R2.run (de ls)).run (eA n ls u)).run (de ls)).now i a) /\
   ∀i a,(18<=a/\a<n - 18)->(((R2.run (de ls)).run (eA n ls u)).run (de ls)).now i a=R2.now i a:=by
 obtain ⟨h1,h2,h3⟩:=h.mark hI hn (R2:=R2.run (de ls)) (hg.on.run _) (fun i=>by rw [Rk.bH,hg.size]) (fun i=>by rw [Rk.di,hg.live]) (fun i a ha=>by rw [fc hI,hg.now i a oZ]) hu
 exact ⟨h1,h2,fun i a ha=>by rw [h3 i a ha,fc hI]⟩
end
structure p5 (pool T:Nat)(u:Ub)(ring:Nat->Option Ub):Prop where
 top:ring (T % 8)=some u
 tx:u.ae=T
 one:1<=T
 pl:u.pool=pool
 all:∀j v,ring j=some v->j<8/\v.pool=pool/\v.ae<=T/\v.ae % 8=j
section
variable {pool T:Nat}{u:Ub}{ring:Nat->Option Ub}
theorem p5.first {v:Ub}(hp:v.pool=pool)(ht:v.ae=1):p5 pool 1 v (upd (fun _=>none) (v.ae % 8) (some v)):=by
 refine ⟨by rw [ht];rfl,ht,Nat.le_refl _,hp,fun j x h => ?_⟩
 unfold upd at h
 split at h
 ·cases h;exact ⟨by omega,hp,by omega,by omega⟩
 ·cases h
theorem p5.next (h:p5 pool T u ring){v:Ub}(hp:v.pool=pool)(ht:v.ae=T+1):p5 pool (T+1) v (upd ring (v.ae % 8) (some v)):=by
 refine ⟨by rw [ht];exact if_pos rfl,ht,by omega,hp,fun j x hx => ?_⟩
 unfold upd at hx
 split at hx
 ·cases hx;exact ⟨by omega,hp,by omega,by omega⟩
 ·obtain ⟨h1,h2,h3,h4⟩:=h.all j x hx
  exact ⟨h1,h2,by omega,h4⟩
theorem p5.again (h:p5 pool T u ring):upd ring (u.ae % 8) (some u)=ring:=by
 funext j
 unfold upd
 split
 ·subst j;rw [h.tx];exact h.top.symm
 ·rfl
theorem p5.afQ (h:p5 pool T u ring){w:Nat}(hw:1<=w){x:Ub}(hb:mD (fun _ _ j=>ring j) pool w x):x=u:=by
 have hu:Mb (fun _ _ j=>ring j) pool w u:=⟨0,0,T % 8,by omega,by omega,Nat.mod_lt _ oZ,h.top,h.pl⟩
 rcases hb with ⟨-,hn⟩ | ⟨⟨i,k,j, -, -, -,hj, -⟩, -,hm⟩
 ·exact absurd hu (hn u)
 ·have h1:=hm u hu
  have hj:ring j=some x:=hj
  obtain ⟨-, -,h3,h4⟩:=h.all j x hj
  have e:x.ae=T:=by have:=h.tx;omega
  rw [e] at h4
  subst h4
  have:=h.top
  rw [hj] at this
  exact Option.some.inj this
theorem p5.jd (h:p5 pool T u ring):((List.range 8).filterMap ring).length<=19/\∀j v,ring j=some v->v∈(List.range 8).filterMap ring:=by
 refine ⟨Nat.le_trans (length_filterMap_le ..) (by simp),fun j v hv => ?_⟩
 exact mem_filterMap.2 ⟨j,mem_range.2 (h.all j v hv).1,hv⟩
end
theorem fB.congr {R R':Rk}{w no:Nat}{G:List UInt8}(h:fB R w no G)(e:∀i a,i<w->18<=a->a<274->R'.now i a=R.now i a):fB R' w no G:=by
 refine ⟨h.len,fun k hk => ?_⟩
 obtain ⟨s,h1,h2⟩:=h.sec k hk
 exact ⟨s,fun i hi=>by rw [e i _ hi oZ oZ];exact h1 i hi,h2⟩
section
variable {ls:List (Option Lv)}(hI:pB ls)
include hI
end
theorem Kb {R:Rk}{i z B:Nat}(hB:1<=B)(hz:z<=B):∀k,(∀q,q<k->ig (R.now i (18+q))=true->fN (R.now i (18+q))<B)->z<=zu R i z k/\zu R i z k<=B/\∀q,q<k->ig (R.now i (18+q))=true->fN (R.now i (18+q))<zu R i z k
 | 0,_=>by rw [zu];exact ⟨Nat.le_refl _,hz,fun q h=>by omega⟩
 | k+1,h=>by
  obtain ⟨h1,h2,h3⟩:=Kb hB hz k fun q hq=>h q oZ
  have hk:=h k oZ
  rw [zu]
  refine ⟨by omega, ?_,fun q hq hs => ?_⟩
  ·split
   ·have:=hk (by assumption);omega
   ·omega
  ·rcases (show q<k\/q=k by omega) with c | rfl
   ·have:=h3 q c hs;omega
   ·rw [if_pos hs];omega
section
variable {ls:List (Option Lv)}(hI:pB ls)
include hI
theorem Wl {R:Rk}{no:Nat}{G:List UInt8}(h:fB R ls.length no G)(gf:1<=no)(hw:1<=ls.length):fB R ls.length (rX R ls 1 ls.length) G/\1<=rX R ls 1 ls.length/\rX R ls 1 ls.length<=no:=by
 have hs:∀i,i<ls.length->∀q,q<256->ig (R.now i (18+q))=true->fN (R.now i (18+q))<no:=fun i hi q hq hl=>by
  obtain ⟨s,h1,h2⟩:=h.sec q hq
  rw [h1 i hi] at hl ⊢
  rcases h2 with ⟨-,b, -⟩ | ⟨b, -⟩
  ·exact b
  ·rw [b] at hl;cases hl
 have key:∀j,j<=ls.length->1<=rX R ls 1 j/\rX R ls 1 j<=no/\∀i,i<j->∀q,q<256->ig (R.now i (18+q))=true->fN (R.now i (18+q))<rX R ls 1 j:=by
  intro j
  induction j with
  | zero=>intro _;rw [rX];exact ⟨Nat.le_refl _,gf,fun i h=>by omega⟩
  | succ j ih =>
   intro hj
   obtain ⟨i1,i2,i3⟩:=ih oZ
   obtain ⟨x,hx,uw⟩:=hI j oZ
   have e:rX R ls 1 (j+1)=zu R x.i (rX R ls 1 j) 256:=by rw [rX,hx]
   rw [e,uw]
   obtain ⟨k1,k2,k3⟩:=Kb gf i2 256 fun q hq hl=>hs j oZ q hq hl
   refine ⟨by omega,k2,fun i hi q hq hl => ?_⟩
   rcases (show i<j\/i=j by omega) with c | rfl
   ·have:=i3 i c q hq hl;omega
   ·exact k3 q hq hl
 obtain ⟨g1,g2,g3⟩:=key _ (Nat.le_refl _)
 refine ⟨⟨h.len,fun k hk => ?_⟩,g1,g2⟩
 obtain ⟨s,h1,h2⟩:=h.sec k hk
 refine ⟨s,h1, ?_⟩
 rcases h2 with ⟨a,b,c⟩ | h2
 ·have:=g3 0 oZ k hk (by rw [h1 0 oZ];exact a)
  rw [h1 0 oZ] at this
  exact .inl ⟨a,this,c⟩
 ·exact .inr h2
end
structure Tt (tp:Tp)(pr:Bool)(n w q:Nat)(R:Rk)(no:Nat)(u:Ub)(l:List aw)(G:List UInt8)(pm:List dg)(cs:List (Int×Ob))(mo:Ob)(ring:Nat->Option Ub):Prop where
 qt:Qt 11 tp n w ring R
 rg:p5 11 u.ae u ring
 ub:wq u=0/\u.Ok
 rt:u.root=mo.root
 S6:uL pm cs mo l
 lv:∀x,(x∈eg mo\/∃k o,aJ cs k=some o/\x∈eg o)↔∃e∈pm,e.x=x
 po:dv pr w n R pm
 jd:pm.length<=q
 ud:aT l+10<=q
 lg:fB R w no G
structure rJ (tp:Tp)(pr:Bool)(n w q:Nat)(R:Rk)(no:Nat)(u:Ub)(all:List (Int×Ob))(od:List (Int×List Pt))(x:Rm)(lM lD:List aw)(GM SD:List UInt8)(pm:List dg)(cs:List (Int×Ob))(mo:Ob)(ring:Nat->Option Ub):Prop where
 dk:Tt tp pr n w q R no u lD GM pm cs mo ring
 rel:bM pm all lM
 al:NS (bD pr w n) (aL pr w 1024) q u.ae x pm
 oe:∀x,x∈aY od↔∃e∈pm,e.x=x
 ol:∀e∈od,e.2.length<=200
 um:aT lM+10<=q
 ls:fB R.up0 w no SD
section
variable {tp:Tp}{pr:Bool}{n q:Nat}{R:Rk}{no:Nat}{u:Ub}{all:List (Int×Ob)}{od:List (Int×List Pt)}{x:Rm}{lM lD:List aw}{GM SD:List UInt8}{pm:List dg}{cs:List (Int×Ob)}{mo:Ob}{ring:Nat->Option Ub}
theorem rJ.ac5 {w:Nat}(h:rJ tp pr n w q R no u all od x lM lD GM SD pm cs mo ring){M0:List (Int×Ob)}{l':List aw}(hr:bM pm M0 l')(hu:aT l'+10<=q):rJ tp pr n w q R no u M0 od x l' lD GM SD pm cs mo ring:={ h with rel:=hr,um:=hu }
theorem rJ.nvD {w:Nat}(h:rJ tp pr n w q R no u all od x lM lD GM SD pm cs mo ring){l':List aw}(e:l'.map aw.nv=lD.map aw.nv):rJ tp pr n w q R no u all od x lM l' GM SD pm cs mo ring:={ h with dk:={ h.dk with S6:=h.dk.S6.nv e,ud:=by rw [FN e];exact h.dk.ud } }
theorem rJ.nvM {w:Nat}(h:rJ tp pr n w q R no u all od x lM lD GM SD pm cs mo ring){l':List aw}(e:l'.map aw.nv=lM.map aw.nv):rJ tp pr n w q R no u all od x l' lD GM SD pm cs mo ring:=h.ac5 (h.rel.nv e) (by rw [FN e];exact h.um)
variable {ls:List (Option Lv)}(hI:pB ls)(hn:324<=n/\n<=2048)(hw:1<=ls.length/\ls.length<=5)(hp:pr=true->3<=ls.length)
include hI hn hw hp
omit hI hn hw hp in
theorem rJ.tF (h:rJ tp pr n ls.length q R no u all od x lM lD GM SD pm cs mo ring):NQ pr n ls ⟨R,x,[]⟩ pm :=
 ⟨h.dk.qt.on,fun i hi=>(h.dk.qt.sz i hi).2,h.dk.po,fun e he=>(h.al.hd e he).1,h.al.nd⟩
theorem rJ.BO (h:rJ tp pr n ls.length q R no u all od x lM lD GM SD pm cs mo ring)(ht:u.ae+1<=281474976710656){ks:List Int}{os:List (Int×Ob)}{ds:List (Int×List Pt)}{P2:PS}{kQ:Ob}{fs:List Pt}{note:Nat}(rV:note<18446744073709551616)
  (hc:J5 pr ls n u.ae all od ⟨R,x,[]⟩ ks os ds P2 kQ fs) :
  ∃fD,rJ tp pr n ls.length q (((P2.R.run (de ls)).run (eA n ls ⟨11,u.ae+1,note,kQ.root⟩)).run (de ls)) no ⟨11,u.ae+1,note,kQ.root⟩ os ds ((bA (u.ae+1) P2.x (aL pr ls.length 1024) fs).sync ((u.ae+1:Nat):Int)) (lM.map (jC (u.ae+1))) (lM.map (jC (u.ae+1))) GM GM fD os kQ (upd ring ((u.ae+1) % 8) (some ⟨11,u.ae+1,note,kQ.root⟩))/\P2.R.on:=by
 obtain ⟨fD,h1,h2,h3,h4,h5,h6,h7,h8,h9,Yg,h11⟩:=xF hI hn hw hp ⟨h.dk.rg.one,ht⟩ hc h.tF h.rel h.al h.oe h.dk.jd h.um
 have hu:wq (⟨11,u.ae+1,note,kQ.root⟩:Ub)=0/\Ub.Ok ⟨11,u.ae+1,note,kQ.root⟩:=⟨if_pos ⟨sOZ,ht,h9,h11⟩,⟨sOZ,sOZ,rV,Yg⟩⟩
 obtain ⟨k1,k2,k3⟩:=h.dk.qt.BO hI hn.1 h6 hu
 refine ⟨fD,⟨⟨k1,h.dk.rg.next rfl rfl,hu,rfl,h1,fun x=>(h8 x).symm.trans (h2 x),h5.congr hn.1 hw hp fun i hi a a1 a2=>k3 i a ⟨by omega,a2⟩,h3,by rw [rI];exact h.um, ?_⟩,h1.rel,h4,h2,h7,by rw [rI];exact h.um, ?_⟩,h6.on⟩
 ·exact h.dk.lg.congr fun i a hi a1 a2=>by rw [k3 i a ⟨a1,by omega⟩,h6.now i a (.inl a2)]
 ·exact h.dk.lg.congr fun i a hi a1 a2=>by rw [Bz,k2 i a hi,k3 i a ⟨a1,by omega⟩,h6.now i a (.inl a2)]
end
section
variable {tp:Tp}{pr:Bool}{n q:Nat}{R:Rk}{no:Nat}{u:Ub}{l:List aw}{G:List UInt8}{pm:List dg}{cs:List (Int×Ob)}{mo:Ob}{ring:Nat->Option Ub}
theorem Si {up:Pt->List Pt}{m:Ob}{SL:List fv}(x:Pt):x∈aY (BH up m SL)↔x∈eg m\/∃k o,aJ (yg up 0 SL) k=some o/\x∈eg o:=by
 unfold aY BH
 rw [flatMap_cons,List.mem_append,mem_flatMap]
 refine or_congr Iff.rfl ⟨?_, ?_⟩
 ·rintro ⟨e,he,hx⟩
  obtain ⟨f,hf,rfl⟩:=mem_map.1 he
  exact ⟨f.1,f.2,fu nR hf,hx⟩
 ·rintro ⟨k,o,ho,hx⟩
  exact ⟨_,mem_map.2 ⟨_,aI ho,rfl⟩,hx⟩
variable {ls:List (Option Lv)}(hI:pB ls)(hn:324<=n/\n<=2048)(hw:1<=ls.length/\ls.length<=5)(hp:pr=true->3<=ls.length)
include hI hn hw hp
end
theorem BP {R:Rk}{l:List Ev}{i a:Nat}{b:eE}(db:R.on)(ha:a<R.size i)(h:∀b',Ev.w i a b'∈l->b'=b)(hb:R.now i a=b):(R.run l).now i a=b:=by
 by_cases c:Ev.w i a b∈l
 ·exact fP db ha h c
 ·rw [bI fun b' Ks=>c (by rw [h b' Ks] at Ks;exact Ks)];exact hb
structure FmD (n i:Nat)(s:eE)(R:Rk):Prop where
 lb:R.now i 0=s
 z:∀a,a<n->(∀k,k<4->a≠ez n k)->R.now i a=fZ
 pl:∀a,R.pl i a=R.now i a
theorem Wm {n i:Nat}{s:eE}{R:Rk}(hn:324<=n)(db:R.on)(bu:R.size i=n)(hz:∀a,a<n->R.now i a=fZ):FmD n i s (R.run (upto (ij n i s) 7)):=by
 have e:upto (ij n i s) 7=(gG i 0 (replicate 274 fZ)++gG i (n - 18) (replicate 18 fZ))++(gG i 0 [s]++(gG i 9 [s]++(gG i (n - 18) [s]++gG i (n - 9) [s])))++[Ev.f i]:=by
  simp [upto,ij,ez]
 have m0:∀ {b a},Ev.w i a b∈gG i 0 (replicate 274 fZ)++gG i (n - 18) (replicate 18 fZ)->b=fZ:=fun {b a} h=>by
  rcases List.mem_append.1 h with h | h <;> obtain ⟨-,j,hj, -⟩:=eZ.1 h <;> exact (mem_replicate.1 (mem_of_getElem? hj)).2
 have m1:∀ {b a p},Ev.w i a b∈gG i p [s]->b=s/\a=p:=fun {b a p} h=>by
  obtain ⟨-,j,hj,e⟩:=eZ.1 h
  rcases j with _ | j
  ·simp at hj;exact ⟨hj.symm,by omega⟩
  ·simp at hj
 have hp:∀a,(R.run (upto (ij n i s) 7)).pl i a=(R.run (upto (ij n i s) 7)).now i a:=fun a=>by
  rw [e,Rk.dD]
  show ((R.run _).ev (.f i)).pl i a=((R.run _).ev (.f i)).now i a
  rw [JY (db.run _),lI]
 refine ⟨?_,fun a ha hk => ?_,hp⟩
 ·rw [e,append_assoc,Rk.dD]
  refine fP (db.run _) (by rw [Rk.bH,bu];omega) (fun b' hb => ?_) ?_
  ·simp only [List.mem_append] at hb
   rcases hb with (h | h | h | h) | h
   ·exact (m1 h).1
   ·exact (m1 h).1
   ·exact (m1 h).1
   ·exact (m1 h).1
   ·simp at h
  ·simp only [List.mem_append]
   exact .inl (.inl (eZ.2 ⟨rfl,0,rfl,rfl⟩))
 ·refine BP db oZ (fun b' hb => ?_) (hz a ha)
  rw [e] at hb
  simp only [List.mem_append] at hb
  have k0:=hk 0 oZ;have k1:=hk 1 oZ;have k2:=hk 2 oZ;have k3:=hk 3 oZ
  simp only [ez] at k0 k1 k2 k3
  rcases hb with (h | h | h | h | h) | h
  ·exact m0 (List.mem_append.2 h)
  ·exact absurd (m1 h).2 k0
  ·exact absurd (m1 h).2 k1
  ·exact absurd (m1 h).2 k2
  ·exact absurd (m1 h).2 k3
  ·simp at h
theorem M1:fU fZ ib=false:=wy fun h=>by
 have:=h.2.1
 revert this;decide
theorem Wn:ig fZ=false:=by
 unfold ig
 rw [show fN fZ=0 by decide]
 simp
theorem Ix (n w:Nat):(rY n w).on:=by
 induction w with
 | zero=>exact ⟨rfl,rfl⟩
 | succ w ih=>exact ih
theorem Sj (n:Nat):∀w,(rY n w).ds=replicate w ⟨replicate n fZ,replicate n fZ,false⟩
 | 0=>rfl
 | w+1=>by
  show (rY n w).ds++[_]=_
  rw [Sj n w,replicate_succ']
theorem tc {n w i:Nat}(hi:i<w):(rY n w).live i/\(rY n w).size i=n/\∀a,a<n->(rY n w).now i a=fZ:=by
 unfold Rk.live Rk.size Rk.now
 rw [Sj,getElem?_replicate,if_pos hi]
 refine ⟨rfl,by simp,fun a ha => ?_⟩
 simp [ha]
theorem ac6 {n k i a:Nat}{s b:eE}{m:Nat}(h:Ev.w i a b∈upto (ij n k s) m):i=k:=by
 obtain ⟨q, -,hq⟩:=dF.1 h
 unfold ij at hq
 split at hq
 all_goals first
  | exact (eZ.1 hq).1
  | simp at hq
theorem ac7 {n k d:Nat}{s:eE}:Ev.f d∉upto (ij n k s) 6:=fun h=>by
 obtain ⟨q,hq6,hq⟩:=dF.1 h
 obtain rfl | rfl | rfl | rfl | rfl | rfl:q=0\/q=1\/q=2\/q=3\/q=4\/q=5:=oZ
 all_goals exact lJ hq
theorem zK {n k i:Nat}{s:eE}{R:Rk}(hi:i≠k):(∀a,(R.run (upto (ij n k s) 7)).now i a=R.now i a)/\((∀a,R.pl i a=R.now i a)->∀a,(R.run (upto (ij n k s) 7)).pl i a=R.now i a):=by
 have h1:∀m a,(R.run (upto (ij n k s) m)).now i a=R.now i a:=fun m a=>bI fun b hb=>hi (ac6 hb)
 refine ⟨h1 7,fun hp a => ?_⟩
 rw [ea,show ij n k s 6=[.f k] from rfl]
 show ((R.run _).ev (.f k)).pl i a=_
 rw [Fk (by rw [By fun d=>ac7,hp,h1]),h1]
theorem Kc {n w:Nat}{lb:Nat->fj}(hn:324<=n):∀k,k<=w->(∀i,i<k->FmD n i (whole (dW (lb i))) ((rY n w).run (upto (rW n lb) k)))/\∀i,k<=i->i<w->∀a,a<n->((rY n w).run (upto (rW n lb) k)).now i a=fZ
 | 0,_=>⟨fun i h=>by omega,fun i _ hi a ha=>(tc hi).2.2 a ha⟩
 | k+1,hk=>by
  obtain ⟨h2,h3⟩:=Kc (w:=w) (lb:=lb) hn k oZ
  have h1:((rY n w).run (upto (rW n lb) k)).on:=(Ix n w).run _
  have h4:((rY n w).run (upto (rW n lb) k)).size k=n:=by rw [Rk.bH];exact (tc oZ).2.1
  rw [ea]
  generalize (rY n w).run (upto (rW n lb) k)=R at *
  refine ⟨fun i hi => ?_,fun i hi hiw a ha => ?_⟩
  ·by_cases c:i=k
   ·subst c
    exact Wm hn h1 h4 (h3 i (Nat.le_refl _) oZ)
   ·obtain ⟨o1,o2⟩:=zK (n:=n) (k:=k) (s:=whole (dW (lb k))) (R:=R) c
    have hd:=h2 i oZ
    exact ⟨by rw [<-hd.lb];exact o1 0,fun a ha hk=>by rw [<-hd.z a ha hk];exact o1 a,fun a=>(o2 hd.pl a).trans (o1 a).symm⟩
  ·rw [<-h3 i oZ hiw a ha]
   exact (zK oZ).1 a
theorem FO {n w pool:Nat}{tp:Tp}(hn:324<=n):Qt pool tp n w (fun _=>none) ((rY n w).run (upto (rW n fun k=>⟨pool,[tp],0,k⟩) w))/\fB ((rY n w).run (upto (rW n fun k=>⟨pool,[tp],0,k⟩) w)) w 1 (replicate 22528 0)/\∀i a,i<w->((rY n w).run (upto (rW n fun k=>⟨pool,[tp],0,k⟩) w)).pl i a=((rY n w).run (upto (rW n fun k=>⟨pool,[tp],0,k⟩) w)).now i a:=by
 have h1:((rY n w).run (upto (rW n fun k=>⟨pool,[tp],0,k⟩) w)).on:=(Ix n w).run _
 obtain ⟨h2, -⟩:=Kc (w:=w) (lb:=fun k=>(⟨pool,[tp],0,k⟩:fj)) hn w (Nat.le_refl _)
 have h4:∀i,i<w->((rY n w).run (upto (rW n fun k=>⟨pool,[tp],0,k⟩) w)).live i/\((rY n w).run (upto (rW n fun k=>⟨pool,[tp],0,k⟩) w)).size i=n:=fun i hi=>⟨(Rk.di ..).2 (tc hi).1,by rw [Rk.bH];exact (tc hi).2.1⟩
 generalize (rY n w).run (upto (rW n fun k=>(⟨pool,[tp],0,k⟩:fj)) w)=R at *
 refine ⟨⟨h1,h4,fun k hk=>(h2 k hk).lb,fun i hi k j hk hj => ?_,fun i hi a _=>(h2 i hi).pl a⟩,⟨length_replicate ..,fun k hk=>⟨fZ,fun i hi=>(h2 i hi).z _ oZ fun q hq => ?_,.inr ⟨Wn, ?_⟩⟩⟩,fun i a hi=>(h2 i hi).pl a⟩
 ·show fU _ ib=false
  rw [(h2 i hi).z _ (jf hk hj hn).1 fun q hq => ?_]
  ·exact M1
  ·obtain rfl | rfl | rfl | rfl:k=0\/k=1\/k=2\/k=3:=oZ
   all_goals
    obtain rfl | rfl | rfl | rfl:q=0\/q=1\/q=2\/q=3:=oZ
    all_goals
     simp only [ez]
     omega
 ·obtain rfl | rfl | rfl | rfl:q=0\/q=1\/q=2\/q=3:=oZ
  all_goals
   simp only [ez]
   omega
 ·unfold gS
  rw [drop_replicate,take_replicate]
  congr 1
  omega
section
variable {pm:List dg}{all:List (Int×Ob)}{l:List aw}
theorem bM.Wo (h:bM pm all l){k:Int}{z room:Nat}{o:Ob}{d:aw}(hk:(d.no:Int)=k)(hd:1<=k/\k<=112)(hn:((eu all k o).map (·.1)).Nodup)(hi:dw pm (dh o.size 1024) o)(hr:eh pm o d)(hz:o.size=z)(hf:cQ l k z room=true) :
  bM pm (eu all k o) (dT d false l)/\aT (dT d false l)<=room:=by
 subst hk
 exact ⟨h.put hn oZ hi hr,MZ hf rfl (hr.size.symm.trans hz)⟩
theorem bM.aaY (h:bM pm all l)(k:Nat):dw pm (dh (Ob.at all k).size 1024) (Ob.at all k)/\eh pm (Ob.at all k) (lG l k)/\(lG l k).no=k/\(Ob.at all k).size=(lG l k).b.length:=by
 unfold Ob.at lG
 rcases h.keys k with ⟨h1,h2⟩ | ⟨o,d,h1,h2,h3,h4⟩
 ·rw [h1,h2]
  exact ⟨Sc pm,MY pm k,rfl,rfl⟩
 ·rw [h1,h2]
  have:=(fH h2).2
  exact ⟨h3,h4,by simp only [Option.getD_some];omega,h4.size⟩
theorem bM.isS (h:bM pm all l){k:Int}{o:Ob}(hk:aJ all k=some o):∃d,eM l k=some d/\(d.no:Int)=k/\dw pm (dh o.size 1024) o/\eh pm o d:=by
 rcases h.keys k with ⟨h1, -⟩ | ⟨o',d,h1,h2,h3,h4⟩
 ·rw [hk] at h1;cases h1
 ·rw [hk] at h1;cases h1
  exact ⟨d,h2,(fH h2).2,h3,h4⟩
theorem bM.isN (h:bM pm all l){k:Int}(hk:aJ all k=none):eM l k=none:=by
 rcases h.keys k with ⟨-,h2⟩ | ⟨o',d,h1, -⟩
 ·exact h2
 ·rw [hk] at h1;cases h1
theorem bM.each (h:bM pm all l):∀e∈all,1<=e.1/\e.1<=112/\dw pm (dh e.2.size 1024) e.2/\e.2.size<=65536/\e.2.used=true:=fun e he=>by
 obtain ⟨d,h1,h2,h3,h4⟩:=h.isS (fu h.kn he)
 have h5:=h.no d (fH h1).1
 exact ⟨by omega,by omega,h3,h4.sz,h4.us⟩
theorem bM.jd (h:bM pm all l):all.length<=112:=by rw [h.len];exact h.dl.jd
theorem zL (h:bM pm all l):mG all (all.map (·.1))<=aT l:=by
 rw [<-h.used]
 have:∀L:List (Int×Ob),(∀e∈L,Fy all e.1<=cost e.2.size)->((L.map (·.1)).map (Fy all)).sum<=eW L:=by
  intro L
  induction L with
  | nil=>intro _;exact Nat.zero_le _
  | cons e r ih =>
   intro h
   have a1:=h e (mem_cons_self ..)
   have a2:=ih fun x hx=>h x (mem_cons_of_mem _ hx)
   simp only [eW,map_cons,sum_cons] at *
   omega
 refine this all fun e he => ?_
 obtain ⟨-, -,h3,h4, -⟩:=h.each e he
 unfold Fy
 rw [fu h.kn he]
 exact aaT h3 h4
theorem bM.write (h:bM pm all l){k:Nat}(hk:1<=k/\k<=112){a m room:Nat}{b:List UInt8}(hb:b.length=m)(Mk:a+m<=65536){cf:List (Int×List UInt8)}(hn:(cf.map (·.1)).Nodup)
  (hf:∀q,aJ cf q=if df a m q then some (j8 ((Ob.at all k).byte (ke pm)) a b (max (Ob.at all k).size (a+m)) q.toNat) else aJ (Ob.at all k).fresh q) (v:Value)
  (Tm:((eu all k { Ob.at all k with size:=max (Ob.at all k).size (a+m),fresh:=cf,clean:=false }).map (·.1)).Nodup) (bJ:cQ l k (max (lG l k).b.length (a+m)) room=true) :
  bM pm (eu all k { Ob.at all k with size:=max (Ob.at all k).size (a+m),fresh:=cf,clean:=false }) (dT { lG l k with b:=Mz (lG l k).b (max (lG l k).b.length (a+m)) a b,ik:=rn (lG l k) a m,v:=v } false l) /\
   aT (dT { lG l k with b:=Mz (lG l k).b (max (lG l k).b.length (a+m)) a b,ik:=rn (lG l k) a m,v:=v } false l)<=room:=by
 obtain ⟨h1,h2,h3,h4⟩:=h.aaY k
 exact h.Wo (by simp only [h3]) oZ Tm (h1.write h2.sz Mk hn hf) (h2.write hb Mk hn hf v) (by simp only [h4]) bJ
theorem bM.ac8 (h:bM pm all l){k:Int}(hk:1<=k/\k<=112){o:Ob}{d:aw}(ho:aJ all k=some o)(hd:eM l k=some d){z room:Nat}(hz:z<=65536){cf:List (Int×List UInt8)}(hn:(cf.map (·.1)).Nodup)
  (hf:∀q,aJ cf q=if z<o.size then j2 (ke pm) o z q else aJ o.fresh q) (v:Value)
  (Tm:((eu all k { o with size:=z,aA:=if z<o.size then o.aA.take (aZ z) else o.aA,fresh:=cf,clean:=false }).map (·.1)).Nodup) (bJ:cQ l k z room=true) :
  bM pm (eu all k { o with size:=z,aA:=if z<o.size then o.aA.take (aZ z) else o.aA,fresh:=cf,clean:=false }) (dT { XZ d z with b:=dV z d.b,v:=v } false l) /\
   aT (dT { XZ d z with b:=dV z d.b,v:=v } false l)<=room:=by
 obtain ⟨d',h1,h2,h3,h4⟩:=h.isS ho
 rw [hd] at h1;cases h1
 unfold XZ
 have hs:=h4.size
 by_cases c:z<o.size
 ·simp only [if_pos c] at hf Tm ⊢
  rw [if_pos oZ]
  exact h.Wo h2 hk Tm (h3.cut c h4.sz hn hf) (h4.cut c hn hf v) rfl bJ
 ·simp only [if_neg c] at hf Tm ⊢
  rw [if_neg oZ]
  exact h.Wo h2 hk Tm (h3.grow oZ hz hn hf) (h4.grow oZ hz hn hf v) rfl bJ
theorem bM.fork (h:bM pm all l){k:Int}{z:Nat}(hz:1<=z/\z<=112){o:Ob}{d:aw}(ho:aJ all k=some o)(hd:eM l k=some d){room:Nat}{cf:List (Int×List UInt8)}(hn:(cf.map (·.1)).Nodup)(hf:∀q,aJ cf q=aJ o.fresh q)(v:Value)
  (Tm:((eu all z { o with fresh:=cf }).map (·.1)).Nodup) (bJ:cQ l z d.b.length room=true) :
  bM pm (eu all z { o with fresh:=cf }) (dT { d with no:=z,v:=v } false l)/\aT (dT { d with no:=z,v:=v } false l)<=room:=by
 obtain ⟨d',h1,h2,h3,h4⟩:=h.isS ho
 rw [hd] at h1;cases h1
 exact h.Wo rfl oZ Tm (h3.same hn hf) (h4.same hn hf z v) h4.size bJ
end
theorem rJ.new {tp:Tp}{pr:Bool}{n q:Nat}{ls:List (Option Lv)}(hI:pB ls)(hn:324<=n/\n<=2048)(hq:10<=q):∀R0,R0=(rY n ls.length).run (upto (rW n fun k=>⟨11,[tp],0,k⟩) ls.length) ->
  R0.on/\(∀i,i<ls.length->R0.live i/\R0.size i=n)/\(∀i,i<ls.length->iD R0 n i fun _ _=>none)/\∃ring,rJ tp pr n ls.length q ((R0.run (eA n ls ⟨11,1,0,ai⟩)).run (de ls)) 1 ⟨11,1,0,ai⟩ [] [] ⟨[],[]⟩ [] [] (replicate 22528 0) (replicate 22528 0) [] [] Wj ring:=by
 rintro R0 hR
 obtain ⟨h1,h2,h3⟩:=FO (w:=ls.length) (pool:=11) (tp:=tp) hn.1
 rw [<-hR] at h1 h2 h3
 have hu:wq (⟨11,1,0,ai⟩:Ub)=0/\Ub.Ok ⟨11,1,0,ai⟩:=⟨by decide,⟨by decide,by decide,by decide,by refine ⟨?_, ?_, ?_, ?_, ?_, ?_, ?_, ?_, ?_⟩ <;> decide⟩⟩
 obtain ⟨k1,k2,k3⟩:=h1.mark hI hn.1 h1.on (fun _=>rfl) (fun _=>Iff.rfl) (fun _ _ _=>rfl) hu
 have hlg:fB ((R0.run (eA n ls ⟨11,1,0,ai⟩)).run (de ls)) ls.length 1 (replicate 22528 0):=h2.congr fun i a hi a1 a2=>k3 i a ⟨a1,by omega⟩
 refine ⟨h1.on,h1.sz,h1.rg,_,⟨⟨k1,p5.first rfl rfl,hu,rfl,J9 FM,fun x => ?_,⟨fun e he=>(by cases he),List.Pairwise.nil⟩,Nat.zero_le _,by simpa [aT] using hq,hlg⟩,(J9 FM).rel,⟨⟨fun k hk=>(by cases hk),nodup_nil,fun k hk=>(by cases hk)⟩,nodup_nil,fun e he=>(by cases he),fun k hk=>(by cases hk),fun g hg=>(by cases hg),nodup_nil⟩,fun x => ?_,fun e he=>(by cases he),by simpa [aT] using hq, ?_⟩⟩
 ·constructor
  ·rintro (h | ⟨k,o,h, -⟩)
   ·exact absurd (gX.1 h).1 (by simp [Wj])
   ·cases h
  ·rintro ⟨e,he, -⟩;cases he
 ·constructor
  ·intro h;cases h
  ·rintro ⟨e,he, -⟩;cases he
 ·exact hlg.congr fun i a hi a1 a2=>by rw [Bz,k2 i a hi]
end Go.Sl
