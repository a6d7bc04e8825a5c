import Derived.Test.YtgdcbiiopbpgaaaGreatDoorY11
set_option maxHeartbeats 4000000
set_option maxRecDepth 100000
set_option linter.unusedSimpArgs false
set_option linter.unusedVariables false
namespace Go.Proofs.YtgdcbiiopbpgaaaGreatDoor
open Go.RowKit
def oZ (l:List V2) (k:Nat):V2:=gM ⟨aY ((l.getD (((k:Int)+1) % (l.length:Int)).toNat ⟨0,0⟩).y - (l.getD k ⟨0,0⟩).y),aY ((l.getD k ⟨0,0⟩).x - (l.getD (((k:Int)+1) % (l.length:Int)).toNat ⟨0,0⟩).x)⟩
def nX (l:List V2):List V2:=(List.range l.length).map (oZ l)
def kK (a:Shp) (pa:V2) (b:Shp) (pb:V2):List V2:=if jh a then if jh b then [gM (dp pb pa)] else [gM (ji pa b pb)] else if jh b then [gM (ji pb a pa)] else []
def aG (a:Shp) (pa:V2) (b:Shp) (pb:V2):List V2:=nX a.poly++(nX b.poly++kK a pa b pb)
theorem dK (l:List V2):(nX l).length=l.length:=by simp [nX]
theorem p8 {l:List V2} {k:Nat} (h:k < l.length):(nX l)[k]?=some (oZ l k):=by simp [nX,h]
theorem DH {a:Shp} {pa:V2} {b:Shp} {pb:V2} {k:Nat} (h:k < a.poly.length):(aG a pa b pb)[k]?=some (oZ a.poly k):=by
 unfold aG
 rw [List.getElem?_append_left (by rw [dK];exact h),p8 h]
theorem DI {a:Shp} {pa:V2} {b:Shp} {pb:V2} {k:Nat} (h:k < b.poly.length):(aG a pa b pb)[a.poly.length+k]?=some (oZ b.poly k):=by
 unfold aG
 rw [List.getElem?_append_right (by rw [dK];omega),dK,Nat.add_sub_cancel_left,List.getElem?_append_left (by rw [dK];exact h),p8 h]
theorem xR {a:Shp} {pa:V2} {b:Shp} {pb x:V2} (h:kK a pa b pb=[x]):(aG a pa b pb)[a.poly.length+b.poly.length]?=some x:=by
 unfold aG
 rw [List.getElem?_append_right (by rw [dK];omega),dK,Nat.add_sub_cancel_left,List.getElem?_append_right (by rw [dK];omega),dK,Nat.sub_self,h]
 rfl
theorem m8 {a:Shp} {pa:V2} {b:Shp} {pb:V2} {m:Nat} (h:(kK a pa b pb).length=m):(aG a pa b pb).length=a.poly.length+b.poly.length+m:=by
 unfold aG
 rw [List.length_append,List.length_append,dK,dK,h];omega
theorem bC (T:HL):ap [] [T]=T:=by simp
abbrev DJ (x:V2):Array Value:=#[.agg #[vI x.x,vI x.y]]
theorem o0 (c:V2) (r:Int) (l:List V2) (b cap:Nat) (pos:V2) (F:HL) (hb:(b,.rows 2 cap (jz l) 29 (0,0)) ∈ F) (hl3:3 <= l.length) (h4:l.length <= cap) (h5:l.length <= 1000000):Sp Tryz.prog 260 #[.agg #[vI c.x,vI c.y],.agg #[vI r,vS b 0 l.length cap],.agg #[vI pos.x,vI pos.y]] [] F (λ u H'=>u=.agg #[vI ((ji c ⟨r,l,some ⟨b,0,none⟩,cap⟩ pos).x),vI ((ji c ⟨r,l,some ⟨b,0,none⟩,cap⟩ pos).y)] /\ H'=[]):=by
 refine Sp.run Tryz.func260 rfl (mc hb mn) (A:=[]) (Ts:=[]) rfl λ w0=>?_
 refine ae 12 [.own 1,.own 1,.own 3,.own 3] λ n1=>aj (iu pos c  _)<|ae 9 [.own 0,.own 0,.own 3] λ n2=>aj (Bw l b cap (dp pos c) (n2+0) _ (List.mem_append_right _ hb) hl3 h4 h5 (aB 0))<|ae 8 [.own 0,.own 0,.own 1,.own 1,.own 0,.own 0] λ n3=>aj (dZ (dp pos c) ((eL (dp pos c) l (l.length - 1)).1)  _)<|ae 3 [.own 2,.own 2] λ _=>?_
 exact RN.ret [.own 2,.own 2] [] [] ⟨rfl,rfl⟩
theorem HF (pa pb:V2) (ra rb:Int) (ca cb:Nat) (Aa:Option Addr) (Ab:Option Addr) (q1 q2 q3 q4 lp:Nat) (X F:HL) (J:Nat -> HL -> Prop) (Jx:HL -> Prop) (T0:HL) (hq1:(q1,.lit [vI ra,.slice Aa 0 ca] 73 (0,0)) ∈ F) (hq2:(q2,.lit [vI rb,.slice Ab 0 cb] 73 (0,0)) ∈ F) (hq3:(q3,.lit [vI pb.x,vI pb.y] 29 (0,0)) ∈ F) (hq4:(q4,.lit [vI pa.x,vI pa.y] 29 (0,0)) ∈ F) (hY:∀ i x H Y,(aG (⟨ra,[],Aa,ca⟩:Shp) pa (⟨rb,[],Ab,cb⟩:Shp) pb)[i]?=some x -> J i H -> YL Tryz.prog lp (DJ x) H (Y++(X++F)) (λ b H'=>(b=true /\ J (i+1) H') \/ (b=false /\ Jx H'))) (hJ0:J 0 T0):Sp Tryz.prog 257 #[.func (.yield lp) #[] #[],vP q1 0,vP q2 0,vP q3 0,vP q4 0] (ap [] [T0]) (X++F) (λ _ H'=>J (aG (⟨ra,[],Aa,ca⟩:Shp) pa (⟨rb,[],Ab,cb⟩:Shp) pb).length H' \/ Jx H'):=by
 have hca:jh (⟨ra,[],Aa,ca⟩:Shp):=rfl
 have hcb:jh (⟨rb,[],Ab,cb⟩:Shp):=rfl
 have hlast:kK (⟨ra,[],Aa,ca⟩:Shp) pa (⟨rb,[],Ab,cb⟩:Shp) pb=[gM (dp pb pa)]:=by simp only [kK,if_pos hca,if_pos hcb]
 have hlen:(aG (⟨ra,[],Aa,ca⟩:Shp) pa (⟨rb,[],Ab,cb⟩:Shp) pb).length=([]:List V2).length+([]:List V2).length+1:=m8 (by rw [hlast];rfl)
 refine Sp.run Tryz.func257 rfl (mc (List.mem_append_right X hq1) (mc (List.mem_append_right X hq2) (mc (List.mem_append_right X hq3) (mc (List.mem_append_right X hq4) mn)))) (A:=[]) (Ts:=[T0]) rfl λ w0=>?_
 refine ae 12 [.ro 0,.ro 1] λ _=>RN.rounds 2<|ae 25 [] λ _=>RN.rounds 1<|ae 43 [] λ _=>RN.rounds 1<|ae 34 [.ro 0,.ro 0] λ _=>aj (iw ra Aa 0 ca _)<|ae 2 [.ro 1,.ro 1] λ _=>aj (iw rb Ab 0 cb _)<|ae 9 [.ro 2,.ro 2,.ro 3,.ro 3] λ _=>aj (iu pb pa  _)<|aj (iA (dp pb pa)  _) ?_
 refine RN.yield 0 (hY 0 (gM (dp pb pa)) _ _ (xR hlast) hJ0) ?_
 rintro b_ T1 (⟨rfl,hJ2⟩ | ⟨rfl,hJ2⟩)
 ·refine ae 2 [] λ _=>RN.ret [] [] [0] (v:=.tuple #[]) (H':=(ap [] [T1])) ?_
  rw [bC]
  exact .inl (by rw [hlen];exact hJ2)
 ·refine ae 2 [] λ _=>RN.ret [] [] [0] (v:=.tuple #[]) (H':=(ap [] [T1])) ?_
  rw [bC]
  exact .inr hJ2
theorem HG (pa pb:V2) (ra rb:Int) (ca cb:Nat) (Aa:Option Addr) (lb:List V2) (bb:Nat) (q1 q2 q3 q4 lp:Nat) (X F:HL) (J:Nat -> HL -> Prop) (Jx:HL -> Prop) (T0:HL) (hq1:(q1,.lit [vI ra,.slice Aa 0 ca] 73 (0,0)) ∈ F) (hq2:(q2,.lit [vI rb,vS bb 0 lb.length cb] 73 (0,0)) ∈ F) (hq3:(q3,.lit [vI pb.x,vI pb.y] 29 (0,0)) ∈ F) (hq4:(q4,.lit [vI pa.x,vI pa.y] 29 (0,0)) ∈ F) (hbb:(bb,.rows 2 cb (jz lb) 29 (0,0)) ∈ F) (h3b:3 <= lb.length) (h4b:lb.length <= cb) (h5b:lb.length <= 1000000) (hY:∀ i x H Y,(aG (⟨ra,[],Aa,ca⟩:Shp) pa (⟨rb,lb,some ⟨bb,0,none⟩,cb⟩:Shp) pb)[i]?=some x -> J i H -> YL Tryz.prog lp (DJ x) H (Y++(X++F)) (λ b H'=>(b=true /\ J (i+1) H') \/ (b=false /\ Jx H'))) (hJ0:J 0 T0):Sp Tryz.prog 257 #[.func (.yield lp) #[] #[],vP q1 0,vP q2 0,vP q3 0,vP q4 0] (ap [] [T0]) (X++F) (λ _ H'=>J (aG (⟨ra,[],Aa,ca⟩:Shp) pa (⟨rb,lb,some ⟨bb,0,none⟩,cb⟩:Shp) pb).length H' \/ Jx H'):=by
 have hca:jh (⟨ra,[],Aa,ca⟩:Shp):=rfl
 have hcb:¬ jh (⟨rb,lb,some ⟨bb,0,none⟩,cb⟩:Shp):=by intro e;simp [jh] at e;subst e;simp at h3b
 have hlast:kK (⟨ra,[],Aa,ca⟩:Shp) pa (⟨rb,lb,some ⟨bb,0,none⟩,cb⟩:Shp) pb=[gM (ji pa (⟨rb,lb,some ⟨bb,0,none⟩,cb⟩:Shp) pb)]:=by simp only [kK,if_pos hca,if_neg hcb]
 have hlen:(aG (⟨ra,[],Aa,ca⟩:Shp) pa (⟨rb,lb,some ⟨bb,0,none⟩,cb⟩:Shp) pb).length=([]:List V2).length+lb.length+1:=m8 (by rw [hlast];rfl)
 refine Sp.run Tryz.func257 rfl (mc (List.mem_append_right X hq1) (mc (List.mem_append_right X hq2) (mc (List.mem_append_right X hq3) (mc (List.mem_append_right X hq4) (mc (List.mem_append_right X hbb) mn))))) (A:=[]) (Ts:=[T0]) rfl λ w0=>?_
 refine ae 12 [.ro 0,.ro 1] λ _=>RN.rounds 2<|ae 25 [] λ _=>RN.rounds 1<|ae 43 [] λ _=>RN.loop (σ:=Nat × HL) (λ ⟨k,T_⟩=>⟨[(0,.func (.yield lp) #[] #[]),(1,vP q1 0),(2,vP q2 0),(3,vP q3 0),(4,vP q4 0),(7,vS bb 0 lb.length cb),(15,.agg #[.slice Aa 0 ca,vS bb 0 lb.length cb]),(16,vI 1),(19,vS bb 0 lb.length cb),(20,vI (lb.length:Int)),(21,vI (k:Int))],[],[T_],k <= lb.length /\ J (([]:List V2).length+k) T_,lb.length - k⟩) (0,T0) [] [0] (⟨Nat.zero_le _,hJ0⟩) ?_
 rintro ⟨k,T_⟩ ⟨hk_,hJ_⟩ mt2
 skip
 refine ae 6 [] λ _=>RN.em ((k:Int) < (lb.length:Int)) 22 (λ h3=>?_) λ h3=>?_
 ·refine ai 22 [.ix k,.rorow 4 k 0,.rorow 4 k 1,.own 0,.own 0,.nw] [bd ((k:Int)+1),((0+k * 2)+1)=k * 2+1 /\ k < cb,(0+k * 2)=k * 2+0 /\ k < cb,(k:Int)=((k:Nat):Int) /\ k < lb.length] λ n4=>?_
  have hm1:=Int.emod_nonneg ((k:Int)+1) (show (lb.length:Int) ≠ 0 by omega)
  have hm2:=Int.emod_lt_of_pos ((k:Int)+1) (show (0:Int) < lb.length by omega)
  refine ai 21 [.nw,.ix ((((k:Int)+1) % (lb.length:Int)).toNat),.rorow 4 ((((k:Int)+1) % (lb.length:Int)).toNat) 0,.rorow 4 ((((k:Int)+1) % (lb.length:Int)).toNat) 1,.own 0,.own 0,.own 0,.own 1,.own 1,.own 0] [((0+((((k:Int)+1) % (lb.length:Int)).toNat) * 2)+1)=((((k:Int)+1) % (lb.length:Int)).toNat) * 2+1 /\ ((((k:Int)+1) % (lb.length:Int)).toNat) < cb,(0+((((k:Int)+1) % (lb.length:Int)).toNat) * 2)=((((k:Int)+1) % (lb.length:Int)).toNat) * 2+0 /\ ((((k:Int)+1) % (lb.length:Int)).toNat) < cb,((k:Int)+1) % (lb.length:Int)=(((((k:Int)+1) % (lb.length:Int)).toNat:Nat):Int) /\ (((k:Int)+1) % (lb.length:Int)).toNat < lb.length,0 <= (k:Int)+1 /\ (0:Int) < (lb.length:Int) /\ (k:Int)+1 <= 9223372036854775807] λ n5=>aj (iA (⟨IntKind.i64.wrap (((lb.getD ((((k:Int)+1) % (lb.length:Int)).toNat) ⟨0,0⟩).y) - ((lb.getD k ⟨0,0⟩).y)),IntKind.i64.wrap (((lb.getD k ⟨0,0⟩).x) - ((lb.getD ((((k:Int)+1) % (lb.length:Int)).toNat) ⟨0,0⟩).x))⟩:V2)  _)<|RN.yield 0 (hY (([]:List V2).length+k) (oZ lb k) _ _ (DI (a:=(⟨ra,[],Aa,ca⟩:Shp)) (by show k < lb.length;omega)) hJ_) ?_
  rintro b_ T6 (⟨rfl,hJ7⟩ | ⟨rfl,hJ7⟩)
  ·refine ai 11 [.gen,.nw] [bd ((k:Int)+1)] λ _=>?_
   refine mt2 (k+1,T6) [] [0] ?_
   try dsimp only
   exact ⟨⟨by omega,hJ7⟩,by omega⟩
  ·refine ae 4 [] λ _=>RN.ret [] [] [0] (v:=.tuple #[]) (H':=(ap [] [T6])) ?_
   rw [bC]
   exact .inr hJ7
 ·have ek1:k=lb.length:=by omega
  subst ek1
  refine ae 28 [.ro 0,.ro 0] λ _=>aj (iw ra Aa 0 ca _)<|ae 2 [.ro 1,.ro 1] λ _=>aj (iw rb (some ⟨bb,0,none⟩) lb.length cb _)<|ae 4 [] λ _=>cT 51 (decide_eq_false (show ¬ ((lb.length:Int)=0) by omega))<|ae 4 [.ro 0,.ro 0] λ _=>aj (iw ra Aa 0 ca _)<|ae 9 [.ro 3,.ro 3,.ro 1,.ro 1,.ro 2,.ro 2] λ _=>aj (o0 pa rb lb bb cb pb _ (List.mem_append_right _ (List.mem_append_right X hbb)) h3b h4b h5b)<|aj (iA (ji pa (⟨rb,lb,some ⟨bb,0,none⟩,cb⟩:Shp) pb)  _)<|RN.yield 0 (hY (([]:List V2).length+lb.length) (gM (ji pa (⟨rb,lb,some ⟨bb,0,none⟩,cb⟩:Shp) pb)) _ _ (xR hlast) hJ_) ?_
  rintro b_ T8 (⟨rfl,hJ9⟩ | ⟨rfl,hJ9⟩)
  ·refine ae 2 [] λ _=>RN.ret [] [] [0] (v:=.tuple #[]) (H':=(ap [] [T8])) ?_
   rw [bC]
   exact .inl (by rw [hlen];exact hJ9)
  ·refine ae 2 [] λ _=>RN.ret [] [] [0] (v:=.tuple #[]) (H':=(ap [] [T8])) ?_
   rw [bC]
   exact .inr hJ9
theorem HH (pa pb:V2) (ra rb:Int) (ca cb:Nat) (la:List V2) (ba:Nat) (Ab:Option Addr) (q1 q2 q3 q4 lp:Nat) (X F:HL) (J:Nat -> HL -> Prop) (Jx:HL -> Prop) (T0:HL) (hq1:(q1,.lit [vI ra,vS ba 0 la.length ca] 73 (0,0)) ∈ F) (hq2:(q2,.lit [vI rb,.slice Ab 0 cb] 73 (0,0)) ∈ F) (hq3:(q3,.lit [vI pb.x,vI pb.y] 29 (0,0)) ∈ F) (hq4:(q4,.lit [vI pa.x,vI pa.y] 29 (0,0)) ∈ F) (hba:(ba,.rows 2 ca (jz la) 29 (0,0)) ∈ F) (h3a:3 <= la.length) (h4a:la.length <= ca) (h5a:la.length <= 1000000) (hY:∀ i x H Y,(aG (⟨ra,la,some ⟨ba,0,none⟩,ca⟩:Shp) pa (⟨rb,[],Ab,cb⟩:Shp) pb)[i]?=some x -> J i H -> YL Tryz.prog lp (DJ x) H (Y++(X++F)) (λ b H'=>(b=true /\ J (i+1) H') \/ (b=false /\ Jx H'))) (hJ0:J 0 T0):Sp Tryz.prog 257 #[.func (.yield lp) #[] #[],vP q1 0,vP q2 0,vP q3 0,vP q4 0] (ap [] [T0]) (X++F) (λ _ H'=>J (aG (⟨ra,la,some ⟨ba,0,none⟩,ca⟩:Shp) pa (⟨rb,[],Ab,cb⟩:Shp) pb).length H' \/ Jx H'):=by
 have hca:¬ jh (⟨ra,la,some ⟨ba,0,none⟩,ca⟩:Shp):=by intro e;simp [jh] at e;subst e;simp at h3a
 have hcb:jh (⟨rb,[],Ab,cb⟩:Shp):=rfl
 have hlast:kK (⟨ra,la,some ⟨ba,0,none⟩,ca⟩:Shp) pa (⟨rb,[],Ab,cb⟩:Shp) pb=[gM (ji pb (⟨ra,la,some ⟨ba,0,none⟩,ca⟩:Shp) pa)]:=by simp only [kK,if_neg hca,if_pos hcb]
 have hlen:(aG (⟨ra,la,some ⟨ba,0,none⟩,ca⟩:Shp) pa (⟨rb,[],Ab,cb⟩:Shp) pb).length=la.length+([]:List V2).length+1:=m8 (by rw [hlast];rfl)
 refine Sp.run Tryz.func257 rfl (mc (List.mem_append_right X hq1) (mc (List.mem_append_right X hq2) (mc (List.mem_append_right X hq3) (mc (List.mem_append_right X hq4) (mc (List.mem_append_right X hba) mn))))) (A:=[]) (Ts:=[T0]) rfl λ w0=>?_
 refine ae 12 [.ro 0,.ro 1] λ _=>RN.rounds 2<|ae 25 [] λ _=>RN.loop (σ:=Nat × HL) (λ ⟨k,T_⟩=>⟨[(0,.func (.yield lp) #[] #[]),(1,vP q1 0),(2,vP q2 0),(3,vP q3 0),(4,vP q4 0),(7,vS ba 0 la.length ca),(15,.agg #[vS ba 0 la.length ca,.slice Ab 0 cb]),(16,vI 0),(19,vS ba 0 la.length ca),(20,vI (la.length:Int)),(21,vI (k:Int))],[],[T_],k <= la.length /\ J (k) T_,la.length - k⟩) (0,T0) [] [0] (⟨Nat.zero_le _,hJ0⟩) ?_
 rintro ⟨k,T_⟩ ⟨hk_,hJ_⟩ mt2
 skip
 refine ae 6 [] λ _=>RN.em ((k:Int) < (la.length:Int)) 22 (λ h3=>?_) λ h3=>?_
 ·refine ai 22 [.ix k,.rorow 4 k 0,.rorow 4 k 1,.own 0,.own 0,.nw] [bd ((k:Int)+1),((0+k * 2)+1)=k * 2+1 /\ k < ca,(0+k * 2)=k * 2+0 /\ k < ca,(k:Int)=((k:Nat):Int) /\ k < la.length] λ n4=>?_
  have hm1:=Int.emod_nonneg ((k:Int)+1) (show (la.length:Int) ≠ 0 by omega)
  have hm2:=Int.emod_lt_of_pos ((k:Int)+1) (show (0:Int) < la.length by omega)
  refine ai 21 [.nw,.ix ((((k:Int)+1) % (la.length:Int)).toNat),.rorow 4 ((((k:Int)+1) % (la.length:Int)).toNat) 0,.rorow 4 ((((k:Int)+1) % (la.length:Int)).toNat) 1,.own 0,.own 0,.own 0,.own 1,.own 1,.own 0] [((0+((((k:Int)+1) % (la.length:Int)).toNat) * 2)+1)=((((k:Int)+1) % (la.length:Int)).toNat) * 2+1 /\ ((((k:Int)+1) % (la.length:Int)).toNat) < ca,(0+((((k:Int)+1) % (la.length:Int)).toNat) * 2)=((((k:Int)+1) % (la.length:Int)).toNat) * 2+0 /\ ((((k:Int)+1) % (la.length:Int)).toNat) < ca,((k:Int)+1) % (la.length:Int)=(((((k:Int)+1) % (la.length:Int)).toNat:Nat):Int) /\ (((k:Int)+1) % (la.length:Int)).toNat < la.length,0 <= (k:Int)+1 /\ (0:Int) < (la.length:Int) /\ (k:Int)+1 <= 9223372036854775807] λ n5=>aj (iA (⟨IntKind.i64.wrap (((la.getD ((((k:Int)+1) % (la.length:Int)).toNat) ⟨0,0⟩).y) - ((la.getD k ⟨0,0⟩).y)),IntKind.i64.wrap (((la.getD k ⟨0,0⟩).x) - ((la.getD ((((k:Int)+1) % (la.length:Int)).toNat) ⟨0,0⟩).x))⟩:V2)  _)<|RN.yield 0 (hY k (oZ la k) _ _ (DH (by show k < la.length;omega)) hJ_) ?_
  rintro b_ T6 (⟨rfl,hJ7⟩ | ⟨rfl,hJ7⟩)
  ·refine ai 11 [.gen,.nw] [bd ((k:Int)+1)] λ _=>?_
   refine mt2 (k+1,T6) [] [0] ?_
   try dsimp only
   exact ⟨⟨by omega,hJ7⟩,by omega⟩
  ·refine ae 4 [] λ _=>RN.ret [] [] [0] (v:=.tuple #[]) (H':=(ap [] [T6])) ?_
   rw [bC]
   exact .inr hJ7
 ·have ek0:k=la.length:=by omega
  subst ek0
  refine ae 37 [] λ _=>RN.rounds 1<|ae 34 [.ro 0,.ro 0] λ _=>aj (iw ra (some ⟨ba,0,none⟩) la.length ca _)<|ae 1 [] λ _=>cT 54 (decide_eq_false (show ¬ ((la.length:Int)=0) by omega))<|ae 10 [.ro 0,.ro 0] λ _=>aj (iw ra (some ⟨ba,0,none⟩) la.length ca _)<|ae 3 [] λ _=>cT 64 (decide_eq_false (show ¬ ((la.length:Int)=0) by omega))<|ae 4 [.ro 1,.ro 1] λ _=>aj (iw rb Ab 0 cb _)<|ae 9 [.ro 2,.ro 2,.ro 0,.ro 0,.ro 3,.ro 3] λ _=>?_
  refine aj (o0 pb ra la ba ca pa _ (List.mem_append_right _ (List.mem_append_right X hba)) h3a h4a h5a)<|aj (iA (ji pb (⟨ra,la,some ⟨ba,0,none⟩,ca⟩:Shp) pa)  _)<|RN.yield 0 (hY la.length (gM (ji pb (⟨ra,la,some ⟨ba,0,none⟩,ca⟩:Shp) pa)) _ _ (xR hlast) hJ_) ?_
  rintro b_ T8 (⟨rfl,hJ9⟩ | ⟨rfl,hJ9⟩)
  ·refine ae 2 [] λ _=>RN.ret [] [] [0] (v:=.tuple #[]) (H':=(ap [] [T8])) ?_
   rw [bC]
   exact .inl (by rw [hlen];exact hJ9)
  ·refine ae 2 [] λ _=>RN.ret [] [] [0] (v:=.tuple #[]) (H':=(ap [] [T8])) ?_
   rw [bC]
   exact .inr hJ9
theorem HI (pa pb:V2) (ra rb:Int) (ca cb:Nat) (la:List V2) (ba:Nat) (lb:List V2) (bb:Nat) (q1 q2 q3 q4 lp:Nat) (X F:HL) (J:Nat -> HL -> Prop) (Jx:HL -> Prop) (T0:HL) (hq1:(q1,.lit [vI ra,vS ba 0 la.length ca] 73 (0,0)) ∈ F) (hq2:(q2,.lit [vI rb,vS bb 0 lb.length cb] 73 (0,0)) ∈ F) (hq3:(q3,.lit [vI pb.x,vI pb.y] 29 (0,0)) ∈ F) (hq4:(q4,.lit [vI pa.x,vI pa.y] 29 (0,0)) ∈ F) (hba:(ba,.rows 2 ca (jz la) 29 (0,0)) ∈ F) (h3a:3 <= la.length) (h4a:la.length <= ca) (h5a:la.length <= 1000000) (hbb:(bb,.rows 2 cb (jz lb) 29 (0,0)) ∈ F) (h3b:3 <= lb.length) (h4b:lb.length <= cb) (h5b:lb.length <= 1000000) (hY:∀ i x H Y,(aG (⟨ra,la,some ⟨ba,0,none⟩,ca⟩:Shp) pa (⟨rb,lb,some ⟨bb,0,none⟩,cb⟩:Shp) pb)[i]?=some x -> J i H -> YL Tryz.prog lp (DJ x) H (Y++(X++F)) (λ b H'=>(b=true /\ J (i+1) H') \/ (b=false /\ Jx H'))) (hJ0:J 0 T0):Sp Tryz.prog 257 #[.func (.yield lp) #[] #[],vP q1 0,vP q2 0,vP q3 0,vP q4 0] (ap [] [T0]) (X++F) (λ _ H'=>J (aG (⟨ra,la,some ⟨ba,0,none⟩,ca⟩:Shp) pa (⟨rb,lb,some ⟨bb,0,none⟩,cb⟩:Shp) pb).length H' \/ Jx H'):=by
 have hca:¬ jh (⟨ra,la,some ⟨ba,0,none⟩,ca⟩:Shp):=by intro e;simp [jh] at e;subst e;simp at h3a
 have hcb:¬ jh (⟨rb,lb,some ⟨bb,0,none⟩,cb⟩:Shp):=by intro e;simp [jh] at e;subst e;simp at h3b
 have hlast:kK (⟨ra,la,some ⟨ba,0,none⟩,ca⟩:Shp) pa (⟨rb,lb,some ⟨bb,0,none⟩,cb⟩:Shp) pb=[]:=by simp only [kK,if_neg hca,if_neg hcb]
 have hlen:(aG (⟨ra,la,some ⟨ba,0,none⟩,ca⟩:Shp) pa (⟨rb,lb,some ⟨bb,0,none⟩,cb⟩:Shp) pb).length=la.length+lb.length+0:=m8 (by rw [hlast];rfl)
 refine Sp.run Tryz.func257 rfl (mc (List.mem_append_right X hq1) (mc (List.mem_append_right X hq2) (mc (List.mem_append_right X hq3) (mc (List.mem_append_right X hq4) (mc (List.mem_append_right X hba) (mc (List.mem_append_right X hbb) mn)))))) (A:=[]) (Ts:=[T0]) rfl λ w0=>?_
 refine ae 12 [.ro 0,.ro 1] λ _=>RN.rounds 2<|ae 25 [] λ _=>RN.loop (σ:=Nat × HL) (λ ⟨k,T_⟩=>⟨[(0,.func (.yield lp) #[] #[]),(1,vP q1 0),(2,vP q2 0),(3,vP q3 0),(4,vP q4 0),(7,vS ba 0 la.length ca),(15,.agg #[vS ba 0 la.length ca,vS bb 0 lb.length cb]),(16,vI 0),(19,vS ba 0 la.length ca),(20,vI (la.length:Int)),(21,vI (k:Int))],[],[T_],k <= la.length /\ J (k) T_,la.length - k⟩) (0,T0) [] [0] (⟨Nat.zero_le _,hJ0⟩) ?_
 rintro ⟨k,T_⟩ ⟨hk_,hJ_⟩ mt2
 skip
 refine ae 6 [] λ _=>RN.em ((k:Int) < (la.length:Int)) 22 (λ h3=>?_) λ h3=>?_
 ·refine ai 22 [.ix k,.rorow 4 k 0,.rorow 4 k 1,.own 0,.own 0,.nw] [bd ((k:Int)+1),((0+k * 2)+1)=k * 2+1 /\ k < ca,(0+k * 2)=k * 2+0 /\ k < ca,(k:Int)=((k:Nat):Int) /\ k < la.length] λ n4=>?_
  have hm1:=Int.emod_nonneg ((k:Int)+1) (show (la.length:Int) ≠ 0 by omega)
  have hm2:=Int.emod_lt_of_pos ((k:Int)+1) (show (0:Int) < la.length by omega)
  refine ai 21 [.nw,.ix ((((k:Int)+1) % (la.length:Int)).toNat),.rorow 4 ((((k:Int)+1) % (la.length:Int)).toNat) 0,.rorow 4 ((((k:Int)+1) % (la.length:Int)).toNat) 1,.own 0,.own 0,.own 0,.own 1,.own 1,.own 0] [((0+((((k:Int)+1) % (la.length:Int)).toNat) * 2)+1)=((((k:Int)+1) % (la.length:Int)).toNat) * 2+1 /\ ((((k:Int)+1) % (la.length:Int)).toNat) < ca,(0+((((k:Int)+1) % (la.length:Int)).toNat) * 2)=((((k:Int)+1) % (la.length:Int)).toNat) * 2+0 /\ ((((k:Int)+1) % (la.length:Int)).toNat) < ca,((k:Int)+1) % (la.length:Int)=(((((k:Int)+1) % (la.length:Int)).toNat:Nat):Int) /\ (((k:Int)+1) % (la.length:Int)).toNat < la.length,0 <= (k:Int)+1 /\ (0:Int) < (la.length:Int) /\ (k:Int)+1 <= 9223372036854775807] λ n5=>aj (iA (⟨IntKind.i64.wrap (((la.getD ((((k:Int)+1) % (la.length:Int)).toNat) ⟨0,0⟩).y) - ((la.getD k ⟨0,0⟩).y)),IntKind.i64.wrap (((la.getD k ⟨0,0⟩).x) - ((la.getD ((((k:Int)+1) % (la.length:Int)).toNat) ⟨0,0⟩).x))⟩:V2)  _)<|RN.yield 0 (hY k (oZ la k) _ _ (DH (by show k < la.length;omega)) hJ_) ?_
  rintro b_ T6 (⟨rfl,hJ7⟩ | ⟨rfl,hJ7⟩)
  ·refine ai 11 [.gen,.nw] [bd ((k:Int)+1)] λ _=>?_
   refine mt2 (k+1,T6) [] [0] ?_
   try dsimp only
   exact ⟨⟨by omega,hJ7⟩,by omega⟩
  ·refine ae 4 [] λ _=>RN.ret [] [] [0] (v:=.tuple #[]) (H':=(ap [] [T6])) ?_
   rw [bC]
   exact .inr hJ7
 ·have ek0:k=la.length:=by omega
  subst ek0
  refine ae 37 [] λ _=>RN.loop (σ:=Nat × HL) (λ ⟨k,T_⟩=>⟨[(0,.func (.yield lp) #[] #[]),(1,vP q1 0),(2,vP q2 0),(3,vP q3 0),(4,vP q4 0),(7,vS bb 0 lb.length cb),(15,.agg #[vS ba 0 la.length ca,vS bb 0 lb.length cb]),(16,vI 1),(19,vS bb 0 lb.length cb),(20,vI (lb.length:Int)),(21,vI (k:Int))],[],[T_],k <= lb.length /\ J (la.length+k) T_,lb.length - k⟩) (0,T_) [] [0] (⟨Nat.zero_le _,hJ_⟩) ?_
  rintro ⟨k,T_⟩ ⟨hk_,hJ_⟩ mt9
  skip
  refine ae 6 [] λ _=>RN.em ((k:Int) < (lb.length:Int)) 22 (λ h10=>?_) λ h10=>?_
  ·refine ai 22 [.ix k,.rorow 5 k 0,.rorow 5 k 1,.own 0,.own 0,.nw] [bd ((k:Int)+1),((0+k * 2)+1)=k * 2+1 /\ k < cb,(0+k * 2)=k * 2+0 /\ k < cb,(k:Int)=((k:Nat):Int) /\ k < lb.length] λ n11=>?_
   have hm1:=Int.emod_nonneg ((k:Int)+1) (show (lb.length:Int) ≠ 0 by omega)
   have hm2:=Int.emod_lt_of_pos ((k:Int)+1) (show (0:Int) < lb.length by omega)
   refine ai 21 [.nw,.ix ((((k:Int)+1) % (lb.length:Int)).toNat),.rorow 5 ((((k:Int)+1) % (lb.length:Int)).toNat) 0,.rorow 5 ((((k:Int)+1) % (lb.length:Int)).toNat) 1,.own 0,.own 0,.own 0,.own 1,.own 1,.own 0] [((0+((((k:Int)+1) % (lb.length:Int)).toNat) * 2)+1)=((((k:Int)+1) % (lb.length:Int)).toNat) * 2+1 /\ ((((k:Int)+1) % (lb.length:Int)).toNat) < cb,(0+((((k:Int)+1) % (lb.length:Int)).toNat) * 2)=((((k:Int)+1) % (lb.length:Int)).toNat) * 2+0 /\ ((((k:Int)+1) % (lb.length:Int)).toNat) < cb,((k:Int)+1) % (lb.length:Int)=(((((k:Int)+1) % (lb.length:Int)).toNat:Nat):Int) /\ (((k:Int)+1) % (lb.length:Int)).toNat < lb.length,0 <= (k:Int)+1 /\ (0:Int) < (lb.length:Int) /\ (k:Int)+1 <= 9223372036854775807] λ n12=>aj (iA (⟨IntKind.i64.wrap (((lb.getD ((((k:Int)+1) % (lb.length:Int)).toNat) ⟨0,0⟩).y) - ((lb.getD k ⟨0,0⟩).y)),IntKind.i64.wrap (((lb.getD k ⟨0,0⟩).x) - ((lb.getD ((((k:Int)+1) % (lb.length:Int)).toNat) ⟨0,0⟩).x))⟩:V2)  _)<|RN.yield 0 (hY (la.length+k) (oZ lb k) _ _ (DI (a:=(⟨ra,la,some ⟨ba,0,none⟩,ca⟩:Shp)) (by show k < lb.length;omega)) hJ_) ?_
   rintro b_ T13 (⟨rfl,hJ14⟩ | ⟨rfl,hJ14⟩)
   ·refine ai 11 [.gen,.nw] [bd ((k:Int)+1)] λ _=>?_
    refine mt9 (k+1,T13) [] [0] ?_
    try dsimp only
    exact ⟨⟨by omega,hJ14⟩,by omega⟩
   ·refine ae 4 [] λ _=>RN.ret [] [] [0] (v:=.tuple #[]) (H':=(ap [] [T13])) ?_
    rw [bC]
    exact .inr hJ14
  ·have ek1:k=lb.length:=by omega
   subst ek1
   refine ae 28 [.ro 0,.ro 0] λ _=>aj (iw ra (some ⟨ba,0,none⟩) la.length ca _)<|ae 1 [] λ _=>cT 54 (decide_eq_false (show ¬ ((la.length:Int)=0) by omega))<|ae 10 [.ro 0,.ro 0] λ _=>aj (iw ra (some ⟨ba,0,none⟩) la.length ca _)<|ae 3 [] λ _=>cT 64 (decide_eq_false (show ¬ ((la.length:Int)=0) by omega))<|ae 4 [.ro 1,.ro 1] λ _=>aj (iw rb (some ⟨bb,0,none⟩) lb.length cb _)<|ae 3 [] λ _=>cT 74 (decide_eq_false (show ¬ ((lb.length:Int)=0) by omega))<|ae 3 [] λ _=>?_
   refine RN.ret [] [] [0] (v:=.tuple #[]) (H':=(ap [] [T_])) ?_
   rw [bC]
   exact .inl (by rw [hlen];exact hJ_)
end Go.Proofs.YtgdcbiiopbpgaaaGreatDoor
