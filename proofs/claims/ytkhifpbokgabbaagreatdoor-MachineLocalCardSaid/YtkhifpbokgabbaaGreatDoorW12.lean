import Derived.Test.YtkhifpbokgabbaaGreatDoorW11
set_option maxHeartbeats 4000000
set_option maxRecDepth 100000
set_option linter.unusedSimpArgs false
set_option linter.unusedVariables false
namespace Go.Proofs.YtkhifpbokgabbaaGreatDoor
open Go.RowKit
def edgeV (l:List V2) (k:Nat):V2:=unitV ⟨w64 ((l.getD (((k:Int)+1) % (l.length:Int)).toNat ⟨0,0⟩).y - (l.getD k ⟨0,0⟩).y),w64 ((l.getD k ⟨0,0⟩).x - (l.getD (((k:Int)+1) % (l.length:Int)).toNat ⟨0,0⟩).x)⟩
def edgesL (l:List V2):List V2:=(List.range l.length).map (edgeV l)
def lastL (a:Shp) (pa:V2) (b:Shp) (pb:V2):List V2:=if circ a then if circ b then [unitV (vsub pb pa)] else [unitV (toVert pa b pb)] else if circ b then [unitV (toVert pb a pa)] else []
def axesL (a:Shp) (pa:V2) (b:Shp) (pb:V2):List V2:=edgesL a.poly++(edgesL b.poly++lastL a pa b pb)
theorem edgesL_len (l:List V2):(edgesL l).length=l.length:=by simp [edgesL]
theorem edgesL_get {l:List V2} {k:Nat} (h:k < l.length):(edgesL l)[k]?=some (edgeV l k):=by simp [edgesL,h]
theorem axes_1 {a:Shp} {pa:V2} {b:Shp} {pb:V2} {k:Nat} (h:k < a.poly.length):(axesL a pa b pb)[k]?=some (edgeV a.poly k):=by
 unfold axesL
 rw [List.getElem?_append_left (by rw [edgesL_len];exact h),edgesL_get h]
theorem axes_2 {a:Shp} {pa:V2} {b:Shp} {pb:V2} {k:Nat} (h:k < b.poly.length):(axesL a pa b pb)[a.poly.length+k]?=some (edgeV b.poly k):=by
 unfold axesL
 rw [List.getElem?_append_right (by rw [edgesL_len];omega),edgesL_len,Nat.add_sub_cancel_left,List.getElem?_append_left (by rw [edgesL_len];exact h),edgesL_get h]
theorem axes_3 {a:Shp} {pa:V2} {b:Shp} {pb x:V2} (h:lastL a pa b pb=[x]):(axesL a pa b pb)[a.poly.length+b.poly.length]?=some x:=by
 unfold axesL
 rw [List.getElem?_append_right (by rw [edgesL_len];omega),edgesL_len,Nat.add_sub_cancel_left,List.getElem?_append_right (by rw [edgesL_len];omega),edgesL_len,Nat.sub_self,h]
 rfl
theorem axes_len {a:Shp} {pa:V2} {b:Shp} {pb:V2} {m:Nat} (h:(lastL a pa b pb).length=m):(axesL a pa b pb).length=a.poly.length+b.poly.length+m:=by
 unfold axesL
 rw [List.length_append,List.length_append,edgesL_len,edgesL_len,h];omega
theorem ap_one (T:HL):ap [] [T]=T:=by simp
abbrev encV (x:V2):Array Value:=#[.agg #[vI x.x,vI x.y]]
theorem toVert_poly (c:V2) (r:Int) (l:List V2) (b cap:Nat) (pos:V2) (F:HL) (hb:(b,.rows 2 cap (vrow l) 29 (0,0)) ∈ F) (hl3:3 <= l.length) (h4:l.length <= cap) (h5:l.length <= 1000000):Sp Tryz.prog 147 #[.agg #[vI c.x,vI c.y],.agg #[vI r,vS b 0 l.length cap],.agg #[vI pos.x,vI pos.y]] [] F (λ u H'=>u=.agg #[vI ((toVert c ⟨r,l,some ⟨b,0,none⟩,cap⟩ pos).x),vI ((toVert c ⟨r,l,some ⟨b,0,none⟩,cap⟩ pos).y)] /\ H'=[]):=by
 refine Sp.run Tryz.func147 rfl (mc hb mn) (A:=[]) (Ts:=[]) rfl λ w0=>?_
 refine RN.go 12 [.own 1,.own 1,.own 3,.own 3] λ n1=>RN.cp (vsub_any pos c  _)<|RN.go 9 [.own 0,.own 0,.own 3] λ n2=>RN.cp (least_any l b cap (vsub pos c) (n2+0) _ (List.mem_append_right _ hb) hl3 h4 h5 (in_ap 0))<|RN.go 8 [.own 0,.own 0,.own 1,.own 1,.own 0,.own 0] λ n3=>RN.cp (vadd_any (vsub pos c) ((leastF (vsub pos c) l (l.length - 1)).1)  _)<|RN.go 3 [.own 2,.own 2] λ _=>?_
 exact RN.ret [.own 2,.own 2] [] [] ⟨rfl,rfl⟩
theorem axes_cc (pa pb:V2) (ra rb:Int) (ca cb:Nat) (Aa:Option Addr) (Ab:Option Addr) (q1 q2 q3 q4 lp:Nat) (X F:HL) (J:Nat -> HL -> Prop) (Jx:HL -> Prop) (T0:HL) (hq1:(q1,.lit [vI ra,.slice Aa 0 ca] 59 (0,0)) ∈ F) (hq2:(q2,.lit [vI rb,.slice Ab 0 cb] 59 (0,0)) ∈ F) (hq3:(q3,.lit [vI pb.x,vI pb.y] 29 (0,0)) ∈ F) (hq4:(q4,.lit [vI pa.x,vI pa.y] 29 (0,0)) ∈ F) (hY:∀ i x H Y,(axesL (⟨ra,[],Aa,ca⟩:Shp) pa (⟨rb,[],Ab,cb⟩:Shp) pb)[i]?=some x -> J i H -> YL Tryz.prog lp (encV x) H (Y++(X++F)) (λ b H'=>(b=true /\ J (i+1) H') \/ (b=false /\ Jx H'))) (hJ0:J 0 T0):Sp Tryz.prog 144 #[.func (.yield lp) #[] #[],vP q1 0,vP q2 0,vP q3 0,vP q4 0] (ap [] [T0]) (X++F) (λ _ H'=>J (axesL (⟨ra,[],Aa,ca⟩:Shp) pa (⟨rb,[],Ab,cb⟩:Shp) pb).length H' \/ Jx H'):=by
 have hca:circ (⟨ra,[],Aa,ca⟩:Shp):=rfl
 have hcb:circ (⟨rb,[],Ab,cb⟩:Shp):=rfl
 have hlast:lastL (⟨ra,[],Aa,ca⟩:Shp) pa (⟨rb,[],Ab,cb⟩:Shp) pb=[unitV (vsub pb pa)]:=by simp only [lastL,if_pos hca,if_pos hcb]
 have hlen:(axesL (⟨ra,[],Aa,ca⟩:Shp) pa (⟨rb,[],Ab,cb⟩:Shp) pb).length=([]:List V2).length+([]:List V2).length+1:=axes_len (by rw [hlast];rfl)
 refine Sp.run Tryz.func144 rfl (mc (List.mem_append_right X hq1) (mc (List.mem_append_right X hq2) (mc (List.mem_append_right X hq3) (mc (List.mem_append_right X hq4) mn)))) (A:=[]) (Ts:=[T0]) rfl λ w0=>?_
 refine RN.go 12 [.ro 0,.ro 1] λ _=>RN.rounds 2<|RN.go 25 [] λ _=>RN.rounds 1<|RN.go 43 [] λ _=>RN.rounds 1<|RN.go 34 [.ro 0,.ro 0] λ _=>RN.cp (cc_any ra Aa 0 ca _)<|RN.go 2 [.ro 1,.ro 1] λ _=>RN.cp (cc_any rb Ab 0 cb _)<|RN.go 9 [.ro 2,.ro 2,.ro 3,.ro 3] λ _=>RN.cp (vsub_any pb pa  _)<|RN.cp (unit_any (vsub pb pa)  _) ?_
 refine RN.yield 0 (hY 0 (unitV (vsub pb pa)) _ _ (axes_3 hlast) hJ0) ?_
 rintro b_ T1 (⟨rfl,hJ2⟩ | ⟨rfl,hJ2⟩)
 ·refine RN.go 2 [] λ _=>RN.ret [] [] [0] (v:=.tuple #[]) (H':=(ap [] [T1])) ?_
  rw [ap_one]
  exact .inl (by rw [hlen];exact hJ2)
 ·refine RN.go 2 [] λ _=>RN.ret [] [] [0] (v:=.tuple #[]) (H':=(ap [] [T1])) ?_
  rw [ap_one]
  exact .inr hJ2
theorem axes_cp (pa pb:V2) (ra rb:Int) (ca cb:Nat) (Aa:Option Addr) (lb:List V2) (bb:Nat) (q1 q2 q3 q4 lp:Nat) (X F:HL) (J:Nat -> HL -> Prop) (Jx:HL -> Prop) (T0:HL) (hq1:(q1,.lit [vI ra,.slice Aa 0 ca] 59 (0,0)) ∈ F) (hq2:(q2,.lit [vI rb,vS bb 0 lb.length cb] 59 (0,0)) ∈ F) (hq3:(q3,.lit [vI pb.x,vI pb.y] 29 (0,0)) ∈ F) (hq4:(q4,.lit [vI pa.x,vI pa.y] 29 (0,0)) ∈ F) (hbb:(bb,.rows 2 cb (vrow lb) 29 (0,0)) ∈ F) (h3b:3 <= lb.length) (h4b:lb.length <= cb) (h5b:lb.length <= 1000000) (hY:∀ i x H Y,(axesL (⟨ra,[],Aa,ca⟩:Shp) pa (⟨rb,lb,some ⟨bb,0,none⟩,cb⟩:Shp) pb)[i]?=some x -> J i H -> YL Tryz.prog lp (encV x) H (Y++(X++F)) (λ b H'=>(b=true /\ J (i+1) H') \/ (b=false /\ Jx H'))) (hJ0:J 0 T0):Sp Tryz.prog 144 #[.func (.yield lp) #[] #[],vP q1 0,vP q2 0,vP q3 0,vP q4 0] (ap [] [T0]) (X++F) (λ _ H'=>J (axesL (⟨ra,[],Aa,ca⟩:Shp) pa (⟨rb,lb,some ⟨bb,0,none⟩,cb⟩:Shp) pb).length H' \/ Jx H'):=by
 have hca:circ (⟨ra,[],Aa,ca⟩:Shp):=rfl
 have hcb:¬ circ (⟨rb,lb,some ⟨bb,0,none⟩,cb⟩:Shp):=by intro e;simp [circ] at e;subst e;simp at h3b
 have hlast:lastL (⟨ra,[],Aa,ca⟩:Shp) pa (⟨rb,lb,some ⟨bb,0,none⟩,cb⟩:Shp) pb=[unitV (toVert pa (⟨rb,lb,some ⟨bb,0,none⟩,cb⟩:Shp) pb)]:=by simp only [lastL,if_pos hca,if_neg hcb]
 have hlen:(axesL (⟨ra,[],Aa,ca⟩:Shp) pa (⟨rb,lb,some ⟨bb,0,none⟩,cb⟩:Shp) pb).length=([]:List V2).length+lb.length+1:=axes_len (by rw [hlast];rfl)
 refine Sp.run Tryz.func144 rfl (mc (List.mem_append_right X hq1) (mc (List.mem_append_right X hq2) (mc (List.mem_append_right X hq3) (mc (List.mem_append_right X hq4) (mc (List.mem_append_right X hbb) mn))))) (A:=[]) (Ts:=[T0]) rfl λ w0=>?_
 refine RN.go 12 [.ro 0,.ro 1] λ _=>RN.rounds 2<|RN.go 25 [] λ _=>RN.rounds 1<|RN.go 43 [] λ _=>RN.loop (σ:=Nat × HL) (λ ⟨k,T_⟩=>⟨[(0,.func (.yield lp) #[] #[]),(1,vP q1 0),(2,vP q2 0),(3,vP q3 0),(4,vP q4 0),(7,vS bb 0 lb.length cb),(15,.agg #[.slice Aa 0 ca,vS bb 0 lb.length cb]),(16,vI 1),(19,vS bb 0 lb.length cb),(20,vI (lb.length:Int)),(21,vI (k:Int))],[],[T_],k <= lb.length /\ J (([]:List V2).length+k) T_,lb.length - k⟩) (0,T0) [] [0] (⟨Nat.zero_le _,hJ0⟩) ?_
 rintro ⟨k,T_⟩ ⟨hk_,hJ_⟩ mt2
 skip
 refine RN.go 6 [] λ _=>RN.em ((k:Int) < (lb.length:Int)) 22 (λ h3=>?_) λ h3=>?_
 ·refine RN.goP 22 [.ix k,.rorow 4 k 0,.rorow 4 k 1,.own 0,.own 0,.nw] [I64 ((k:Int)+1),((0+k * 2)+1)=k * 2+1 /\ k < cb,(0+k * 2)=k * 2+0 /\ k < cb,(k:Int)=((k:Nat):Int) /\ k < lb.length] λ n4=>?_
  have hm1:=Int.emod_nonneg ((k:Int)+1) (show (lb.length:Int) ≠ 0 by omega)
  have hm2:=Int.emod_lt_of_pos ((k:Int)+1) (show (0:Int) < lb.length by omega)
  refine RN.goP 21 [.nw,.ix ((((k:Int)+1) % (lb.length:Int)).toNat),.rorow 4 ((((k:Int)+1) % (lb.length:Int)).toNat) 0,.rorow 4 ((((k:Int)+1) % (lb.length:Int)).toNat) 1,.own 0,.own 0,.own 0,.own 1,.own 1,.own 0] [((0+((((k:Int)+1) % (lb.length:Int)).toNat) * 2)+1)=((((k:Int)+1) % (lb.length:Int)).toNat) * 2+1 /\ ((((k:Int)+1) % (lb.length:Int)).toNat) < cb,(0+((((k:Int)+1) % (lb.length:Int)).toNat) * 2)=((((k:Int)+1) % (lb.length:Int)).toNat) * 2+0 /\ ((((k:Int)+1) % (lb.length:Int)).toNat) < cb,((k:Int)+1) % (lb.length:Int)=(((((k:Int)+1) % (lb.length:Int)).toNat:Nat):Int) /\ (((k:Int)+1) % (lb.length:Int)).toNat < lb.length,0 <= (k:Int)+1 /\ (0:Int) < (lb.length:Int) /\ (k:Int)+1 <= 9223372036854775807] λ n5=>RN.cp (unit_any (⟨IntKind.i64.wrap (((lb.getD ((((k:Int)+1) % (lb.length:Int)).toNat) ⟨0,0⟩).y) - ((lb.getD k ⟨0,0⟩).y)),IntKind.i64.wrap (((lb.getD k ⟨0,0⟩).x) - ((lb.getD ((((k:Int)+1) % (lb.length:Int)).toNat) ⟨0,0⟩).x))⟩:V2)  _)<|RN.yield 0 (hY (([]:List V2).length+k) (edgeV lb k) _ _ (axes_2 (a:=(⟨ra,[],Aa,ca⟩:Shp)) (by show k < lb.length;omega)) hJ_) ?_
  rintro b_ T6 (⟨rfl,hJ7⟩ | ⟨rfl,hJ7⟩)
  ·refine RN.goP 11 [.gen,.nw] [I64 ((k:Int)+1)] λ _=>?_
   refine mt2 (k+1,T6) [] [0] ?_
   try dsimp only
   exact ⟨⟨by omega,hJ7⟩,by omega⟩
  ·refine RN.go 4 [] λ _=>RN.ret [] [] [0] (v:=.tuple #[]) (H':=(ap [] [T6])) ?_
   rw [ap_one]
   exact .inr hJ7
 ·have ek1:k=lb.length:=by omega
  subst ek1
  refine RN.go 28 [.ro 0,.ro 0] λ _=>RN.cp (cc_any ra Aa 0 ca _)<|RN.go 2 [.ro 1,.ro 1] λ _=>RN.cp (cc_any rb (some ⟨bb,0,none⟩) lb.length cb _)<|RN.go 4 [] λ _=>RN.fx 51 (decide_eq_false (show ¬ ((lb.length:Int)=0) by omega))<|RN.go 4 [.ro 0,.ro 0] λ _=>RN.cp (cc_any ra Aa 0 ca _)<|RN.go 9 [.ro 3,.ro 3,.ro 1,.ro 1,.ro 2,.ro 2] λ _=>RN.cp (toVert_poly pa rb lb bb cb pb _ (List.mem_append_right _ (List.mem_append_right X hbb)) h3b h4b h5b)<|RN.cp (unit_any (toVert pa (⟨rb,lb,some ⟨bb,0,none⟩,cb⟩:Shp) pb)  _)<|RN.yield 0 (hY (([]:List V2).length+lb.length) (unitV (toVert pa (⟨rb,lb,some ⟨bb,0,none⟩,cb⟩:Shp) pb)) _ _ (axes_3 hlast) hJ_) ?_
  rintro b_ T8 (⟨rfl,hJ9⟩ | ⟨rfl,hJ9⟩)
  ·refine RN.go 2 [] λ _=>RN.ret [] [] [0] (v:=.tuple #[]) (H':=(ap [] [T8])) ?_
   rw [ap_one]
   exact .inl (by rw [hlen];exact hJ9)
  ·refine RN.go 2 [] λ _=>RN.ret [] [] [0] (v:=.tuple #[]) (H':=(ap [] [T8])) ?_
   rw [ap_one]
   exact .inr hJ9
theorem axes_pc (pa pb:V2) (ra rb:Int) (ca cb:Nat) (la:List V2) (ba:Nat) (Ab:Option Addr) (q1 q2 q3 q4 lp:Nat) (X F:HL) (J:Nat -> HL -> Prop) (Jx:HL -> Prop) (T0:HL) (hq1:(q1,.lit [vI ra,vS ba 0 la.length ca] 59 (0,0)) ∈ F) (hq2:(q2,.lit [vI rb,.slice Ab 0 cb] 59 (0,0)) ∈ F) (hq3:(q3,.lit [vI pb.x,vI pb.y] 29 (0,0)) ∈ F) (hq4:(q4,.lit [vI pa.x,vI pa.y] 29 (0,0)) ∈ F) (hba:(ba,.rows 2 ca (vrow la) 29 (0,0)) ∈ F) (h3a:3 <= la.length) (h4a:la.length <= ca) (h5a:la.length <= 1000000) (hY:∀ i x H Y,(axesL (⟨ra,la,some ⟨ba,0,none⟩,ca⟩:Shp) pa (⟨rb,[],Ab,cb⟩:Shp) pb)[i]?=some x -> J i H -> YL Tryz.prog lp (encV x) H (Y++(X++F)) (λ b H'=>(b=true /\ J (i+1) H') \/ (b=false /\ Jx H'))) (hJ0:J 0 T0):Sp Tryz.prog 144 #[.func (.yield lp) #[] #[],vP q1 0,vP q2 0,vP q3 0,vP q4 0] (ap [] [T0]) (X++F) (λ _ H'=>J (axesL (⟨ra,la,some ⟨ba,0,none⟩,ca⟩:Shp) pa (⟨rb,[],Ab,cb⟩:Shp) pb).length H' \/ Jx H'):=by
 have hca:¬ circ (⟨ra,la,some ⟨ba,0,none⟩,ca⟩:Shp):=by intro e;simp [circ] at e;subst e;simp at h3a
 have hcb:circ (⟨rb,[],Ab,cb⟩:Shp):=rfl
 have hlast:lastL (⟨ra,la,some ⟨ba,0,none⟩,ca⟩:Shp) pa (⟨rb,[],Ab,cb⟩:Shp) pb=[unitV (toVert pb (⟨ra,la,some ⟨ba,0,none⟩,ca⟩:Shp) pa)]:=by simp only [lastL,if_neg hca,if_pos hcb]
 have hlen:(axesL (⟨ra,la,some ⟨ba,0,none⟩,ca⟩:Shp) pa (⟨rb,[],Ab,cb⟩:Shp) pb).length=la.length+([]:List V2).length+1:=axes_len (by rw [hlast];rfl)
 refine Sp.run Tryz.func144 rfl (mc (List.mem_append_right X hq1) (mc (List.mem_append_right X hq2) (mc (List.mem_append_right X hq3) (mc (List.mem_append_right X hq4) (mc (List.mem_append_right X hba) mn))))) (A:=[]) (Ts:=[T0]) rfl λ w0=>?_
 refine RN.go 12 [.ro 0,.ro 1] λ _=>RN.rounds 2<|RN.go 25 [] λ _=>RN.loop (σ:=Nat × HL) (λ ⟨k,T_⟩=>⟨[(0,.func (.yield lp) #[] #[]),(1,vP q1 0),(2,vP q2 0),(3,vP q3 0),(4,vP q4 0),(7,vS ba 0 la.length ca),(15,.agg #[vS ba 0 la.length ca,.slice Ab 0 cb]),(16,vI 0),(19,vS ba 0 la.length ca),(20,vI (la.length:Int)),(21,vI (k:Int))],[],[T_],k <= la.length /\ J (k) T_,la.length - k⟩) (0,T0) [] [0] (⟨Nat.zero_le _,hJ0⟩) ?_
 rintro ⟨k,T_⟩ ⟨hk_,hJ_⟩ mt2
 skip
 refine RN.go 6 [] λ _=>RN.em ((k:Int) < (la.length:Int)) 22 (λ h3=>?_) λ h3=>?_
 ·refine RN.goP 22 [.ix k,.rorow 4 k 0,.rorow 4 k 1,.own 0,.own 0,.nw] [I64 ((k:Int)+1),((0+k * 2)+1)=k * 2+1 /\ k < ca,(0+k * 2)=k * 2+0 /\ k < ca,(k:Int)=((k:Nat):Int) /\ k < la.length] λ n4=>?_
  have hm1:=Int.emod_nonneg ((k:Int)+1) (show (la.length:Int) ≠ 0 by omega)
  have hm2:=Int.emod_lt_of_pos ((k:Int)+1) (show (0:Int) < la.length by omega)
  refine RN.goP 21 [.nw,.ix ((((k:Int)+1) % (la.length:Int)).toNat),.rorow 4 ((((k:Int)+1) % (la.length:Int)).toNat) 0,.rorow 4 ((((k:Int)+1) % (la.length:Int)).toNat) 1,.own 0,.own 0,.own 0,.own 1,.own 1,.own 0] [((0+((((k:Int)+1) % (la.length:Int)).toNat) * 2)+1)=((((k:Int)+1) % (la.length:Int)).toNat) * 2+1 /\ ((((k:Int)+1) % (la.length:Int)).toNat) < ca,(0+((((k:Int)+1) % (la.length:Int)).toNat) * 2)=((((k:Int)+1) % (la.length:Int)).toNat) * 2+0 /\ ((((k:Int)+1) % (la.length:Int)).toNat) < ca,((k:Int)+1) % (la.length:Int)=(((((k:Int)+1) % (la.length:Int)).toNat:Nat):Int) /\ (((k:Int)+1) % (la.length:Int)).toNat < la.length,0 <= (k:Int)+1 /\ (0:Int) < (la.length:Int) /\ (k:Int)+1 <= 9223372036854775807] λ n5=>RN.cp (unit_any (⟨IntKind.i64.wrap (((la.getD ((((k:Int)+1) % (la.length:Int)).toNat) ⟨0,0⟩).y) - ((la.getD k ⟨0,0⟩).y)),IntKind.i64.wrap (((la.getD k ⟨0,0⟩).x) - ((la.getD ((((k:Int)+1) % (la.length:Int)).toNat) ⟨0,0⟩).x))⟩:V2)  _)<|RN.yield 0 (hY k (edgeV la k) _ _ (axes_1 (by show k < la.length;omega)) hJ_) ?_
  rintro b_ T6 (⟨rfl,hJ7⟩ | ⟨rfl,hJ7⟩)
  ·refine RN.goP 11 [.gen,.nw] [I64 ((k:Int)+1)] λ _=>?_
   refine mt2 (k+1,T6) [] [0] ?_
   try dsimp only
   exact ⟨⟨by omega,hJ7⟩,by omega⟩
  ·refine RN.go 4 [] λ _=>RN.ret [] [] [0] (v:=.tuple #[]) (H':=(ap [] [T6])) ?_
   rw [ap_one]
   exact .inr hJ7
 ·have ek0:k=la.length:=by omega
  subst ek0
  refine RN.go 37 [] λ _=>RN.rounds 1<|RN.go 34 [.ro 0,.ro 0] λ _=>RN.cp (cc_any ra (some ⟨ba,0,none⟩) la.length ca _)<|RN.go 1 [] λ _=>RN.fx 54 (decide_eq_false (show ¬ ((la.length:Int)=0) by omega))<|RN.go 10 [.ro 0,.ro 0] λ _=>RN.cp (cc_any ra (some ⟨ba,0,none⟩) la.length ca _)<|RN.go 3 [] λ _=>RN.fx 64 (decide_eq_false (show ¬ ((la.length:Int)=0) by omega))<|RN.go 4 [.ro 1,.ro 1] λ _=>RN.cp (cc_any rb Ab 0 cb _)<|RN.go 9 [.ro 2,.ro 2,.ro 0,.ro 0,.ro 3,.ro 3] λ _=>?_
  refine RN.cp (toVert_poly pb ra la ba ca pa _ (List.mem_append_right _ (List.mem_append_right X hba)) h3a h4a h5a)<|RN.cp (unit_any (toVert pb (⟨ra,la,some ⟨ba,0,none⟩,ca⟩:Shp) pa)  _)<|RN.yield 0 (hY la.length (unitV (toVert pb (⟨ra,la,some ⟨ba,0,none⟩,ca⟩:Shp) pa)) _ _ (axes_3 hlast) hJ_) ?_
  rintro b_ T8 (⟨rfl,hJ9⟩ | ⟨rfl,hJ9⟩)
  ·refine RN.go 2 [] λ _=>RN.ret [] [] [0] (v:=.tuple #[]) (H':=(ap [] [T8])) ?_
   rw [ap_one]
   exact .inl (by rw [hlen];exact hJ9)
  ·refine RN.go 2 [] λ _=>RN.ret [] [] [0] (v:=.tuple #[]) (H':=(ap [] [T8])) ?_
   rw [ap_one]
   exact .inr hJ9
theorem axes_pp (pa pb:V2) (ra rb:Int) (ca cb:Nat) (la:List V2) (ba:Nat) (lb:List V2) (bb:Nat) (q1 q2 q3 q4 lp:Nat) (X F:HL) (J:Nat -> HL -> Prop) (Jx:HL -> Prop) (T0:HL) (hq1:(q1,.lit [vI ra,vS ba 0 la.length ca] 59 (0,0)) ∈ F) (hq2:(q2,.lit [vI rb,vS bb 0 lb.length cb] 59 (0,0)) ∈ F) (hq3:(q3,.lit [vI pb.x,vI pb.y] 29 (0,0)) ∈ F) (hq4:(q4,.lit [vI pa.x,vI pa.y] 29 (0,0)) ∈ F) (hba:(ba,.rows 2 ca (vrow la) 29 (0,0)) ∈ F) (h3a:3 <= la.length) (h4a:la.length <= ca) (h5a:la.length <= 1000000) (hbb:(bb,.rows 2 cb (vrow lb) 29 (0,0)) ∈ F) (h3b:3 <= lb.length) (h4b:lb.length <= cb) (h5b:lb.length <= 1000000) (hY:∀ i x H Y,(axesL (⟨ra,la,some ⟨ba,0,none⟩,ca⟩:Shp) pa (⟨rb,lb,some ⟨bb,0,none⟩,cb⟩:Shp) pb)[i]?=some x -> J i H -> YL Tryz.prog lp (encV x) H (Y++(X++F)) (λ b H'=>(b=true /\ J (i+1) H') \/ (b=false /\ Jx H'))) (hJ0:J 0 T0):Sp Tryz.prog 144 #[.func (.yield lp) #[] #[],vP q1 0,vP q2 0,vP q3 0,vP q4 0] (ap [] [T0]) (X++F) (λ _ H'=>J (axesL (⟨ra,la,some ⟨ba,0,none⟩,ca⟩:Shp) pa (⟨rb,lb,some ⟨bb,0,none⟩,cb⟩:Shp) pb).length H' \/ Jx H'):=by
 have hca:¬ circ (⟨ra,la,some ⟨ba,0,none⟩,ca⟩:Shp):=by intro e;simp [circ] at e;subst e;simp at h3a
 have hcb:¬ circ (⟨rb,lb,some ⟨bb,0,none⟩,cb⟩:Shp):=by intro e;simp [circ] at e;subst e;simp at h3b
 have hlast:lastL (⟨ra,la,some ⟨ba,0,none⟩,ca⟩:Shp) pa (⟨rb,lb,some ⟨bb,0,none⟩,cb⟩:Shp) pb=[]:=by simp only [lastL,if_neg hca,if_neg hcb]
 have hlen:(axesL (⟨ra,la,some ⟨ba,0,none⟩,ca⟩:Shp) pa (⟨rb,lb,some ⟨bb,0,none⟩,cb⟩:Shp) pb).length=la.length+lb.length+0:=axes_len (by rw [hlast];rfl)
 refine Sp.run Tryz.func144 rfl (mc (List.mem_append_right X hq1) (mc (List.mem_append_right X hq2) (mc (List.mem_append_right X hq3) (mc (List.mem_append_right X hq4) (mc (List.mem_append_right X hba) (mc (List.mem_append_right X hbb) mn)))))) (A:=[]) (Ts:=[T0]) rfl λ w0=>?_
 refine RN.go 12 [.ro 0,.ro 1] λ _=>RN.rounds 2<|RN.go 25 [] λ _=>RN.loop (σ:=Nat × HL) (λ ⟨k,T_⟩=>⟨[(0,.func (.yield lp) #[] #[]),(1,vP q1 0),(2,vP q2 0),(3,vP q3 0),(4,vP q4 0),(7,vS ba 0 la.length ca),(15,.agg #[vS ba 0 la.length ca,vS bb 0 lb.length cb]),(16,vI 0),(19,vS ba 0 la.length ca),(20,vI (la.length:Int)),(21,vI (k:Int))],[],[T_],k <= la.length /\ J (k) T_,la.length - k⟩) (0,T0) [] [0] (⟨Nat.zero_le _,hJ0⟩) ?_
 rintro ⟨k,T_⟩ ⟨hk_,hJ_⟩ mt2
 skip
 refine RN.go 6 [] λ _=>RN.em ((k:Int) < (la.length:Int)) 22 (λ h3=>?_) λ h3=>?_
 ·refine RN.goP 22 [.ix k,.rorow 4 k 0,.rorow 4 k 1,.own 0,.own 0,.nw] [I64 ((k:Int)+1),((0+k * 2)+1)=k * 2+1 /\ k < ca,(0+k * 2)=k * 2+0 /\ k < ca,(k:Int)=((k:Nat):Int) /\ k < la.length] λ n4=>?_
  have hm1:=Int.emod_nonneg ((k:Int)+1) (show (la.length:Int) ≠ 0 by omega)
  have hm2:=Int.emod_lt_of_pos ((k:Int)+1) (show (0:Int) < la.length by omega)
  refine RN.goP 21 [.nw,.ix ((((k:Int)+1) % (la.length:Int)).toNat),.rorow 4 ((((k:Int)+1) % (la.length:Int)).toNat) 0,.rorow 4 ((((k:Int)+1) % (la.length:Int)).toNat) 1,.own 0,.own 0,.own 0,.own 1,.own 1,.own 0] [((0+((((k:Int)+1) % (la.length:Int)).toNat) * 2)+1)=((((k:Int)+1) % (la.length:Int)).toNat) * 2+1 /\ ((((k:Int)+1) % (la.length:Int)).toNat) < ca,(0+((((k:Int)+1) % (la.length:Int)).toNat) * 2)=((((k:Int)+1) % (la.length:Int)).toNat) * 2+0 /\ ((((k:Int)+1) % (la.length:Int)).toNat) < ca,((k:Int)+1) % (la.length:Int)=(((((k:Int)+1) % (la.length:Int)).toNat:Nat):Int) /\ (((k:Int)+1) % (la.length:Int)).toNat < la.length,0 <= (k:Int)+1 /\ (0:Int) < (la.length:Int) /\ (k:Int)+1 <= 9223372036854775807] λ n5=>RN.cp (unit_any (⟨IntKind.i64.wrap (((la.getD ((((k:Int)+1) % (la.length:Int)).toNat) ⟨0,0⟩).y) - ((la.getD k ⟨0,0⟩).y)),IntKind.i64.wrap (((la.getD k ⟨0,0⟩).x) - ((la.getD ((((k:Int)+1) % (la.length:Int)).toNat) ⟨0,0⟩).x))⟩:V2)  _)<|RN.yield 0 (hY k (edgeV la k) _ _ (axes_1 (by show k < la.length;omega)) hJ_) ?_
  rintro b_ T6 (⟨rfl,hJ7⟩ | ⟨rfl,hJ7⟩)
  ·refine RN.goP 11 [.gen,.nw] [I64 ((k:Int)+1)] λ _=>?_
   refine mt2 (k+1,T6) [] [0] ?_
   try dsimp only
   exact ⟨⟨by omega,hJ7⟩,by omega⟩
  ·refine RN.go 4 [] λ _=>RN.ret [] [] [0] (v:=.tuple #[]) (H':=(ap [] [T6])) ?_
   rw [ap_one]
   exact .inr hJ7
 ·have ek0:k=la.length:=by omega
  subst ek0
  refine RN.go 37 [] λ _=>RN.loop (σ:=Nat × HL) (λ ⟨k,T_⟩=>⟨[(0,.func (.yield lp) #[] #[]),(1,vP q1 0),(2,vP q2 0),(3,vP q3 0),(4,vP q4 0),(7,vS bb 0 lb.length cb),(15,.agg #[vS ba 0 la.length ca,vS bb 0 lb.length cb]),(16,vI 1),(19,vS bb 0 lb.length cb),(20,vI (lb.length:Int)),(21,vI (k:Int))],[],[T_],k <= lb.length /\ J (la.length+k) T_,lb.length - k⟩) (0,T_) [] [0] (⟨Nat.zero_le _,hJ_⟩) ?_
  rintro ⟨k,T_⟩ ⟨hk_,hJ_⟩ mt9
  skip
  refine RN.go 6 [] λ _=>RN.em ((k:Int) < (lb.length:Int)) 22 (λ h10=>?_) λ h10=>?_
  ·refine RN.goP 22 [.ix k,.rorow 5 k 0,.rorow 5 k 1,.own 0,.own 0,.nw] [I64 ((k:Int)+1),((0+k * 2)+1)=k * 2+1 /\ k < cb,(0+k * 2)=k * 2+0 /\ k < cb,(k:Int)=((k:Nat):Int) /\ k < lb.length] λ n11=>?_
   have hm1:=Int.emod_nonneg ((k:Int)+1) (show (lb.length:Int) ≠ 0 by omega)
   have hm2:=Int.emod_lt_of_pos ((k:Int)+1) (show (0:Int) < lb.length by omega)
   refine RN.goP 21 [.nw,.ix ((((k:Int)+1) % (lb.length:Int)).toNat),.rorow 5 ((((k:Int)+1) % (lb.length:Int)).toNat) 0,.rorow 5 ((((k:Int)+1) % (lb.length:Int)).toNat) 1,.own 0,.own 0,.own 0,.own 1,.own 1,.own 0] [((0+((((k:Int)+1) % (lb.length:Int)).toNat) * 2)+1)=((((k:Int)+1) % (lb.length:Int)).toNat) * 2+1 /\ ((((k:Int)+1) % (lb.length:Int)).toNat) < cb,(0+((((k:Int)+1) % (lb.length:Int)).toNat) * 2)=((((k:Int)+1) % (lb.length:Int)).toNat) * 2+0 /\ ((((k:Int)+1) % (lb.length:Int)).toNat) < cb,((k:Int)+1) % (lb.length:Int)=(((((k:Int)+1) % (lb.length:Int)).toNat:Nat):Int) /\ (((k:Int)+1) % (lb.length:Int)).toNat < lb.length,0 <= (k:Int)+1 /\ (0:Int) < (lb.length:Int) /\ (k:Int)+1 <= 9223372036854775807] λ n12=>RN.cp (unit_any (⟨IntKind.i64.wrap (((lb.getD ((((k:Int)+1) % (lb.length:Int)).toNat) ⟨0,0⟩).y) - ((lb.getD k ⟨0,0⟩).y)),IntKind.i64.wrap (((lb.getD k ⟨0,0⟩).x) - ((lb.getD ((((k:Int)+1) % (lb.length:Int)).toNat) ⟨0,0⟩).x))⟩:V2)  _)<|RN.yield 0 (hY (la.length+k) (edgeV lb k) _ _ (axes_2 (a:=(⟨ra,la,some ⟨ba,0,none⟩,ca⟩:Shp)) (by show k < lb.length;omega)) hJ_) ?_
   rintro b_ T13 (⟨rfl,hJ14⟩ | ⟨rfl,hJ14⟩)
   ·refine RN.goP 11 [.gen,.nw] [I64 ((k:Int)+1)] λ _=>?_
    refine mt9 (k+1,T13) [] [0] ?_
    try dsimp only
    exact ⟨⟨by omega,hJ14⟩,by omega⟩
   ·refine RN.go 4 [] λ _=>RN.ret [] [] [0] (v:=.tuple #[]) (H':=(ap [] [T13])) ?_
    rw [ap_one]
    exact .inr hJ14
  ·have ek1:k=lb.length:=by omega
   subst ek1
   refine RN.go 28 [.ro 0,.ro 0] λ _=>RN.cp (cc_any ra (some ⟨ba,0,none⟩) la.length ca _)<|RN.go 1 [] λ _=>RN.fx 54 (decide_eq_false (show ¬ ((la.length:Int)=0) by omega))<|RN.go 10 [.ro 0,.ro 0] λ _=>RN.cp (cc_any ra (some ⟨ba,0,none⟩) la.length ca _)<|RN.go 3 [] λ _=>RN.fx 64 (decide_eq_false (show ¬ ((la.length:Int)=0) by omega))<|RN.go 4 [.ro 1,.ro 1] λ _=>RN.cp (cc_any rb (some ⟨bb,0,none⟩) lb.length cb _)<|RN.go 3 [] λ _=>RN.fx 74 (decide_eq_false (show ¬ ((lb.length:Int)=0) by omega))<|RN.go 3 [] λ _=>?_
   refine RN.ret [] [] [0] (v:=.tuple #[]) (H':=(ap [] [T_])) ?_
   rw [ap_one]
   exact .inl (by rw [hlen];exact hJ_)
end Go.Proofs.YtkhifpbokgabbaaGreatDoor
