import Derived.Test.YtkhifpbokgabbaaGreatDoorW32
set_option maxHeartbeats 4000000
set_option maxRecDepth 100000
set_option linter.unusedSimpArgs false
set_option linter.unusedVariables false
namespace Go.Proofs.YtkhifpbokgabbaaGreatDoor
open Go.RowKit
def ceT:List (Int × Int):=[(0,0),(0,1),(0,1),(1,0),(1,1),(2,0),(0,1),(0,1),(0,1),(2,1),(2,1),(2,1),(2,1),(1,1),(2,1),(2,1),(2,1),(1,1),(0,0),(1,0),(2,0),(0,0)]
abbrev cP (op:Int):Int:=(ceT.getD op.toNat (0,0)).1
abbrev cQ (op:Int):Int:=(ceT.getD op.toNat (0,0)).2
def ceffrow:Nat -> Nat -> Value:=λ i k=>match k with | 0=>vI (ceT.getD i (0,0)).1 | _=>vI (ceT.getD i (0,0)).2
abbrev CefIn (F:HL):Prop:=(0,.rows 2 22 ceffrow 138 (0,0)) ∈ F
theorem ce_bd {op:Int} (h:1 <= op /\ op <= 21):(0 <= cP op /\ cP op <= 2) /\ (0 <= cQ op /\ cQ op <= 1):=by
 obtain ⟨n,rfl⟩:=Int.eq_ofNat_of_zero_le (show 0 <= op by omega)
 have hn:n < 22:=by omega
 have key:∀ n:Fin 22,(0 <= (ceT.getD n.1 (0,0)).1 /\ (ceT.getD n.1 (0,0)).1 <= 2) /\ (0 <= (ceT.getD n.1 (0,0)).2 /\ (ceT.getD n.1 (0,0)).2 <= 1):=by decide
 exact key ⟨n,hn⟩
def sucH:Option (Nat × List Int) -> HL
 | none=>[]
 | some (q,ns)=>[(q,.rows 1 ns.length (irow ns) 3 (0,0))]
def sucR (n:Nat) (u:Value):Option (Nat × List Int) -> Prop
 | none=>u=.slice none 0 0
 | some (q,ns)=>u=vS q 0 ns.length ns.length /\ (∀ j,j < ns.length -> 0 <= ns.getD j 0 /\ ns.getD j 0 <= n) /\ ns.length <= 2
theorem one_bd {n:Nat} {x:Int} (h:0 <= x /\ x <= n):∀ j,j < [x].length -> 0 <= [x].getD j 0 /\ [x].getD j 0 <= n:=λ j hj=>by
 rcases j with _ | j
 ·exact h
 ·simp at hj
theorem two_bd {n:Nat} {x y:Int} (h:0 <= x /\ x <= n) (h':0 <= y /\ y <= n):∀ j,j < [x,y].length -> 0 <= [x,y].getD j 0 /\ [x,y].getD j 0 <= n:=λ j hj=>by
 rcases j with _ | _ | j
 ·exact h
 ·exact h'
 ·simp only [List.length_cons,List.length_nil] at hj;omega
theorem succ_any (b c k:Nat) (l rest:List Ins) (e0 e1 e2:Int) (F:HL) (hb:(b,.rows 2 c (crow (l++rest)) 136 (0,0)) ∈ F) (hc:(l++rest).length=c) (hk:k < l.length) (ok:OKc l) (hn:l.length <= 400):Sp Tryz.prog 66 #[.agg #[vS b 0 l.length c,vI e0,vI e1,vI e2],vI (k:Int)] [] F (λ u H'=>∃ x,H'=ap (sucH x) [] /\ sucR l.length u x):=by
 have hc2:l.length <= c:=by rw [<- hc,List.length_append];omega
 have ei:(l++rest).getD k dIns=l.getD k dIns:=by rw [List.getD_eq_getElem?_getD,List.getElem?_append_left hk,<- List.getD_eq_getElem?_getD]
 have hi:=ok _ (getD_mem' (d:=dIns) hk)
 rw [<- ei] at hi
 have hi1:=hi.1
 have hi2:=hi.2
 refine Sp.run Tryz.func66 rfl (mc hb mn) (A:=[]) (Ts:=[]) rfl λ w0=>?_
 refine RN.goP 31 [.own 0,.ix k,.rorow 0 k 0,.rorow 0 k 1,.own 0,.own 0,.own 0] [((0+k * 2)+1)=k * 2+1 /\ k < c,(0+k * 2)=k * 2+0 /\ k < c,(k:Int)=((k:Nat):Int) /\ k < l.length] λ n1=>RN.em (((l++rest).getD k dIns).op=21) 13 (λ h2=>?_) λ h2=>?_
 ·refine RN.go 6 [] λ _=>RN.ret [] [] [] (v:=.slice none 0 0) (H':=(ap [] [])) ?_
  exact ⟨none,rfl,rfl⟩
 ·refine RN.go 7 [] λ _=>RN.em (((l++rest).getD k dIns).op=18) 15 (λ h3=>?_) λ h3=>?_
  ·refine RN.go 9 [.own 0] λ n4=>RN.dn 0 (.rows 1 1 (irow [((l++rest).getD k dIns).n]) 3 (0,0))<|RN.ret [] [0] [] (v:=vS (n4+0) 0 1 1) (H':=(ap [((n4+0),.rows 1 1 (irow [((l++rest).getD k dIns).n]) 3 (0,0))] [])) ?_
   exact ⟨some ((n4+0),[((l++rest).getD k dIns).n]),rfl,rfl,one_bd (by omega),by simp⟩
  ·refine RN.go 7 [] λ _=>RN.em (((l++rest).getD k dIns).op=19) 20 (λ h5=>?_) λ h5=>?_
   ·refine RN.goP 11 [.nw,.own 0] [I64 ((k:Int)+1)] λ n6=>RN.dn 0 (.rows 1 2 (irow [(k:Int)+1,((l++rest).getD k dIns).n]) 3 (0,0))<|RN.ret [] [0] [] (v:=vS (n6+0) 0 2 2) (H':=(ap [((n6+0),.rows 1 2 (irow [(k:Int)+1,((l++rest).getD k dIns).n]) 3 (0,0))] [])) ?_
    exact ⟨some ((n6+0),[(k:Int)+1,((l++rest).getD k dIns).n]),rfl,rfl,two_bd (by omega) (by omega),by simp⟩
   ·refine RN.goP 12 [.nw] [I64 ((k:Int)+1)] λ n7=>RN.dn 0 (.rows 1 1 (irow [(k:Int)+1]) 3 (0,0))<|RN.ret [] [0] [] (v:=vS (n7+0) 0 1 1) (H':=(ap [((n7+0),.rows 1 1 (irow [(k:Int)+1]) 3 (0,0))] [])) ?_
    exact ⟨some ((n7+0),[(k:Int)+1]),rfl,rfl,one_bd (by omega),by simp⟩
theorem safe_any (f b:Bool) (d:Int) (F:HL):Sp Tryz.prog 39 #[.agg #[.bool f,.bool b,vI d]] [] F (λ u H'=>∃ x:Bool,H'=ap [] [] /\ u=.bool x):=by
 refine Sp.run Tryz.func39 rfl mn (A:=[]) (Ts:=[]) rfl λ w0=>?_
 refine RN.go 12 [.own 0] λ n1=>RN.eB (b) 6 (λ h2=>?_) λ h2=>?_
 ·refine RN.go 7 [] λ _=>RN.ret [] [] [] (v:=.bool false) (H':=(ap [] [])) ?_
  exact ⟨_,rfl,rfl⟩
 ·refine RN.go 7 [.own 0] λ _=>RN.ret [] [] [] (v:=.bool (decide (d <= 16))) (H':=(ap [] [])) ?_
  exact ⟨_,rfl,rfl⟩
def zer:List Int -> Nat
 | []=>0
 | x :: l=>(if x=0 then 1 else 0)+zer l
theorem zer_le:∀ l:List Int,zer l <= l.length
 | []=>Nat.le_refl _
 | x :: l=>by have:=zer_le l;rw [zer,List.length_cons];split <;> omega
theorem zer_set {v:Int} (hv:v ≠ 0):∀ {l:List Int} {k:Nat},k < l.length -> l.getD k 0=0 -> zer (l.set k v)+1=zer l
 | x :: l,0,_,h=>by
  have h':x=0:=by simpa using h
  rw [List.set_cons_zero,zer,zer,if_neg hv,if_pos h'];omega
 | x :: l,k+1,hk,h=>by
  have:=zer_set hv (l:=l) (k:=k) (by simpa using hk) (by simpa using h)
  rw [List.set_cons_succ,zer,zer];omega
theorem zer_rep (n:Nat):zer (List.replicate n 0)=n:=by
 induction n with
 | zero=>rfl
 | succ n ih=>rw [List.replicate_succ,zer,if_pos rfl,ih];omega
structure AInv (n m:Nat) (D:Int) (ds os:List Int):Prop where
 len:ds.length=n
 oin:∀ x ∈ os,0 <= x /\ x < n
 din:∀ x ∈ ds,0 <= x /\ x+zer ds <= (n:Int)+1
 room:os.length+zer ds <= n
 le:2 * zer ds+os.length <= m
 dep:D+zer ds <= (n:Int)+1
theorem mem_dropLast' {α:Type} {x:α} {l:List α} (h:x ∈ l.dropLast):x ∈ l:=List.dropLast_subset l h
theorem AInv.pop {n m:Nat} {D D':Int} {ds os:List Int} (h:AInv n m D ds os) (ho:0 < os.length) (hD:D'+zer ds <= (n:Int)+1):AInv n (m - 1) D' ds os.dropLast :=
 ⟨h.len,λ x hx=>h.oin x (mem_dropLast' hx),h.din,by have:=h.room;rw [List.length_dropLast];omega,by have:=h.le;rw [List.length_dropLast];omega,hD⟩
theorem AInv.push {n m:Nat} {D:Int} {ds os:List Int} (h:AInv n m D ds os) {k:Nat} (hk:k < n) (hz:ds.getD k 0=0):AInv n m D (ds.set k ((if 0 > D then 0 else D)+1)) (os++[(k:Int)]):=by
 have hv0:1 <= (if 0 > D then 0 else D)+1 /\ ((if 0 > D then 0 else D)+1 <= 1 \/ (if 0 > D then 0 else D)+1 <= D+1):=by split <;> omega
 generalize (if 0 > D then 0 else D)+1=v at *
 have hv:v ≠ 0:=by omega
 have hlt:k < ds.length:=by rw [h.len];exact hk
 have hs:=zer_set hv hlt hz
 have h1:=h.room;have h2:=h.le;have h3:=h.dep
 refine ⟨by rw [List.length_set];exact h.len,?_,?_,?_,?_,by omega⟩
 ·intro x hx
  rcases List.mem_append.1 hx with hx | hx
  ·exact h.oin x hx
  ·obtain rfl:x=(k:Int):=by simpa using hx
   omega
 ·intro x hx
  rcases List.mem_or_eq_of_mem_set hx with hx | rfl
  ·have:=h.din x hx;omega
  ·omega
 ·rw [List.length_append,List.length_singleton];omega
 ·rw [List.length_append,List.length_singleton];omega
theorem AInv.to {n m m':Nat} {D:Int} {ds os:List Int} (h:AInv n m D ds os) (hm:m <= m'):AInv n m' 0 ds os :=
 ⟨h.len,h.oin,h.din,h.room,by have:=h.le;omega,by have:=h.room;omega⟩
theorem AInv.ini {n k:Nat} (hk:k < n):AInv n (2 * n) 0 ((List.replicate n 0).set k 1) [(k:Int)]:=by
 have hz:=zer_set (v:=1) (by decide) (l:=List.replicate n 0) (k:=k) (by simpa using hk) (by simp [List.getD_eq_getElem?_getD,List.getElem?_replicate,hk])
 rw [zer_rep] at hz
 refine ⟨by simp,λ x hx=>?_,λ x hx=>?_,?_,?_,by omega⟩
 ·obtain rfl:x=(k:Int):=by simpa using hx
  omega
 ·rcases List.mem_or_eq_of_mem_set hx with hx | rfl
  ·obtain ⟨_,rfl⟩:=List.mem_replicate.1 hx
   omega
  ·omega
 ·simp;omega
 ·simp;omega
theorem SlIs.pop {α:Type} {e:Enc α} {T:TypeId} {os rest:List α} {b c:Nat} (h:(os++rest).length=c) (ho:os ≠ []):SlIs e T os.dropLast (some ⟨b,0,none⟩) c [(b,.rows e.w c (rowE e (os++rest)) T (0,0))]:=by
 have e1:os++rest=os.dropLast++(os.getLast ho :: rest):=by
  conv=>lhs;rw [<- List.dropLast_concat_getLast ho]
  rw [List.append_assoc];rfl
 rw [e1] at h ⊢
 exact SlIs.ofRows h
theorem ana_any (b c k:Nat) (l rest:List Ins) (e0 e1 e2:Int) (F:HL) (hb:(b,.rows 2 c (crow (l++rest)) 136 (0,0)) ∈ F) (hc:(l++rest).length=c) (hk:k < l.length) (ok:OKc l) (hn:l.length <= 400) (hE:CefIn F):Sp Tryz.prog 38 #[.agg #[vS b 0 l.length c,vI e0,vI e1,vI e2],vI (k:Int)] [] F (λ u H'=>∃ x:Bool × Bool × Int,H'=ap [] [] /\ u=.agg #[.bool x.1,.bool x.2.1,vI x.2.2]):=by
 have hc2:l.length <= c:=by rw [<- hc,List.length_append];omega
 refine Sp.run Tryz.func38 rfl (mc hb (mc hE mn)) (A:=[]) (Ts:=[]) rfl λ w0=>?_
 refine RN.goP 22 [.own 2,.mk l.length l.length] [(l.length:Int)=((l.length:Nat):Int) /\ (l.length:Int)=((l.length:Nat):Int) /\ l.length <= l.length /\ 8 * l.length <= 140737488355328 /\ 1=1 /\ l.length <= 9223372036854775807] λ n1=>RN.bv 0 (congrArg (λ v_=>(.rows 1 l.length v_ 3 (0,0):Blk)) (zrow_irow l.length))<|RN.goP 9 [.ix k,.row 0 k 0] [(0+k * 1)=k * 1+0 /\ k < l.length,(k:Int)=((k:Nat):Int) /\ k < l.length] λ _=>RN.bv 0 (congrArg (λ v_=>(.rows 1 l.length v_ 3 (0,0):Blk)) (irow_set (cs:=List.replicate l.length 0) (i:=k) (by rw [List.length_replicate];omega) 1))<|RN.go 6 [] λ n2=>RN.dn 0 (.rows 1 1 (rowE intE ([(k:Int)]++[])) 3 (0,0))<|RN.ctl 0<|RN.loop (σ:=List Int × List Int × Option Addr × Nat × HL × Bool × Bool × Int) (λ ⟨ds_,os_,A_,c_,T_,f_,g_,d_⟩=>⟨[(2,vP (n1+0) 0),(4,vP (n1+1) 0),(5,vP (n1+2) 0),(6,vS (n1+3) 0 l.length l.length),(7,.slice A_ os_.length c_)],[((n1+3),.rows 1 l.length (irow ds_) 3 (0,0)),((n1+2),.lit [.bool f_,.bool g_,vI d_] 108 (0,0)),((n1+1),.lit [.bool false,.bool false,vI 0] 108 (0,0)),((n1+0),.lit [vS b 0 l.length c,vI e0,vI e1,vI e2] 36 (0,0))],[T_],SlIs intE 3 os_ A_ c_ T_ /\ zeroOff A_ /\ AInv l.length (2 * l.length) 0 ds_ os_,2 * zer ds_+os_.length⟩) ((List.replicate l.length 0).set k 1,[(k:Int)],some ⟨(n2+0),0,none⟩,1,([((n2+0),.rows 1 1 (rowE intE ([(k:Int)]++[])) 3 (0,0))]:HL),false,false,0) [0,1,2,3] [0] (⟨SlIs.ofRows (e:=intE) rfl,rfl,AInv.ini hk⟩) ?_
 rintro ⟨ds_,os_,A_,c_,T_,f_,g_,d_⟩ ⟨hs_,hz_,hv_⟩ mt4
 have hro_:=hv_.room
 have hze_:=zer_le ds_
 refine RN.go 8 [] λ _=>RN.em ((os_.length:Int) > 0) 24 (λ h5=>?_) λ h5=>?_
 ·refine RN.go 6 [] λ _=>?_
  obtain ⟨ob,orest,rfl,rfl,hoc⟩:=hs_.openL hz_ (by decide) (by omega)
  have ho1:os_.length <= c_:=by rw [<- hoc,List.length_append];omega
  have em:(os_++orest).getD (os_.length - 1) 0 ∈ os_:=by rw [getD_app (by omega)];exact getD_mem' (by omega)
  refine RN.ot 0 (x:=(ob,.rows 1 c_ (rowE intE (os_++orest)) 3 (0,0)))<|RN.goP 11 [.nw,.ix (os_.length - 1),.row 0 (os_.length - 1) 0] [(0+(os_.length - 1) * 1)=(os_.length - 1) * 1+0 /\ (os_.length - 1) < c_,(os_.length:Int) - 1=(((os_.length - 1):Nat):Int) /\ (os_.length - 1) < os_.length,I64 ((os_.length:Int) - 1)] λ _=>?_
  have hv1:=hv_.oin _ em
  obtain ⟨k1,hk1⟩:=Int.eq_ofNat_of_zero_le hv1.1
  have hk2:=hv1.2
  rw [hk1] at hk2
  have hk3:k1 < l.length:=by omega
  refine RN.sv 8 (congrArg (λ v_=>(vI v_:Value)) hk1) ?_
  have eo:(l++rest).getD k1 dIns=l.getD k1 dIns:=getD_app hk3
  have hop:=(ok _ (getD_mem' (d:=dIns) hk3)).1
  rw [<- eo] at hop
  have hce:=ce_bd hop
  have hdl:=hv_.len
  have hd1:=hv_.din _ (getD_mem' (d:=0) (show k1 < ds_.length by omega))
  have hd2:=hv_.room
  have hzz:=zer_le ds_
  refine RN.goP 10 [.nw,.sl 0 (os_.length - 1) false] [0=0 /\ (os_.length:Int) - 1=(((os_.length - 1):Nat):Int) /\ 0 <= (os_.length - 1) /\ (os_.length - 1) <= c_ /\ c_ ≠ 0,I64 ((os_.length:Int) - 1)] λ _=>RN.ctl 0<|RN.sv 7 (congrArg (λ v_=>(.slice (some ⟨ob,0,none⟩) v_ c_:Value)) (show os_.length - 1 - 0=os_.dropLast.length by rw [List.length_dropLast];rfl)) ?_
  have hs3:SlIs intE 3 os_.dropLast (some ⟨ob,0,none⟩) c_ ([(ob,.rows 1 c_ (rowE intE (os_++orest)) 3 (0,0))]:HL):=SlIs.pop hoc (λ e=>by subst e;simp at *)
  refine RN.goP 31 [.own 3,.ix k1,.rorow 0 k1 0,.ix ((((l++rest).getD k1 dIns).op).toNat),.rorow 1 ((((l++rest).getD k1 dIns).op).toNat) 0,.rorow 1 ((((l++rest).getD k1 dIns).op).toNat) 1,.own 0,.own 0,.ix k1,.row 1 k1 0,.nw,.own 0] [I64 ((ds_.getD k1 0) - 1),(0+k1 * 1)=k1 * 1+0 /\ k1 < l.length,(k1:Int)=((k1:Nat):Int) /\ k1 < l.length,((0+((((l++rest).getD k1 dIns).op).toNat) * 2)+1)=((((l++rest).getD k1 dIns).op).toNat) * 2+1 /\ ((((l++rest).getD k1 dIns).op).toNat) < 22,(0+((((l++rest).getD k1 dIns).op).toNat) * 2)=((((l++rest).getD k1 dIns).op).toNat) * 2+0 /\ ((((l++rest).getD k1 dIns).op).toNat) < 22,((l++rest).getD k1 dIns).op=(((((l++rest).getD k1 dIns).op).toNat:Nat):Int) /\ (((l++rest).getD k1 dIns).op).toNat < 22,(0+k1 * 2)=k1 * 2+0 /\ k1 < c,(k1:Int)=((k1:Nat):Int) /\ k1 < l.length] λ n6=>RN.em ((ds_.getD k1 0) - 1 < cP (((l++rest).getD k1 dIns).op)) 52 (λ h7=>?_) λ h7=>?_
  ·refine RN.goP 30 [.own 2,.own 0,.own 0,.nw,.nw,.own 2,.own 2] [I64 (((ds_.getD k1 0) - 1)+((cQ (((l++rest).getD k1 dIns).op)) - (cP (((l++rest).getD k1 dIns).op)))),I64 ((cQ (((l++rest).getD k1 dIns).op)) - (cP (((l++rest).getD k1 dIns).op)))] λ _=>?_
   have hv3:AInv l.length (2 * zer ds_+os_.length - 1) (((ds_.getD k1 0) - 1)+((cQ (((l++rest).getD k1 dIns).op)) - (cP (((l++rest).getD k1 dIns).op)))) ds_ os_.dropLast:=AInv.pop ⟨hv_.len,hv_.oin,hv_.din,hv_.room,Nat.le_refl _,hv_.dep⟩ (by omega) (by omega)
   refine RN.go 2 [.own 4,.own 4,.own 4,.own 4] λ _=>RN.ct (Hp:=[]) (Tp:=[]) [] [] (succ_any b c k1 l rest e0 e1 e2 _ (ro_ap hb) hc (by omega) ok hn) ?_
   rintro v8 (_ | ⟨q9,ns10⟩) hr11
   ·obtain rfl:v8=Value.slice none 0 0:=hr11
    refine RN.go 5 [] λ _=>RN.rounds 1<|RN.go 12 [] λ _=>?_
    refine mt4 (ds_,os_.dropLast,(some ⟨ob,0,none⟩),c_,([(ob,.rows 1 c_ (rowE intE (os_++orest)) 3 (0,0))]:HL),f_,true,(if ((ds_.getD k1 0) - 1)+((cQ (((l++rest).getD k1 dIns).op)) - (cP (((l++rest).getD k1 dIns).op))) > d_ then ((ds_.getD k1 0) - 1)+((cQ (((l++rest).getD k1 dIns).op)) - (cP (((l++rest).getD k1 dIns).op))) else d_)) [1,2,3,4] [0] ?_
    try dsimp only
    refine ⟨⟨hs3,rfl,hv3.to (by omega)⟩,?_⟩
    have hm_:=hv3.le
    omega
   ·obtain ⟨rfl,hns12,hns2⟩:v8=vS q9 0 ns10.length ns10.length /\ (∀ j,j < ns10.length -> 0 <= ns10.getD j 0 /\ ns10.getD j 0 <= l.length) /\ ns10.length <= 2:=hr11
    refine RN.go 5 [] λ _=>RN.loop (σ:=Nat × List Int × List Int × Option Addr × Nat × HL × Bool × Bool) (λ ⟨j,d2_,o2_,A2_,c2_,T2_,f2_,g2_⟩=>⟨[(2,vP (n1+0) 0),(4,vP (n1+1) 0),(5,vP (n1+2) 0),(6,vS (n1+3) 0 l.length l.length),(7,.slice A2_ o2_.length c2_),(10,vI (((ds_.getD k1 0) - 1)+((cQ (((l++rest).getD k1 dIns).op)) - (cP (((l++rest).getD k1 dIns).op))))),(68,vS q9 0 ns10.length ns10.length),(69,vI (ns10.length:Int)),(70,vI (j:Int))],[(q9,.rows 1 ns10.length (irow ns10) 3 (0,0)),((n6+0),.lit [vI (cP (((l++rest).getD k1 dIns).op)),vI (cQ (((l++rest).getD k1 dIns).op))] 137 (0,0)),((n1+3),.rows 1 l.length (irow d2_) 3 (0,0)),((n1+2),.lit [.bool f2_,.bool g2_,vI (if ((ds_.getD k1 0) - 1)+((cQ (((l++rest).getD k1 dIns).op)) - (cP (((l++rest).getD k1 dIns).op))) > d_ then ((ds_.getD k1 0) - 1)+((cQ (((l++rest).getD k1 dIns).op)) - (cP (((l++rest).getD k1 dIns).op))) else d_)] 108 (0,0)),((n1+1),.lit [.bool false,.bool false,vI 0] 108 (0,0)),((n1+0),.lit [vS b 0 l.length c,vI e0,vI e1,vI e2] 36 (0,0))],[T2_],j <= ns10.length /\ SlIs intE 3 o2_ A2_ c2_ T2_ /\ zeroOff A2_ /\ AInv l.length (2 * zer ds_+os_.length - 1) (((ds_.getD k1 0) - 1)+((cQ (((l++rest).getD k1 dIns).op)) - (cP (((l++rest).getD k1 dIns).op)))) d2_ o2_,ns10.length - j⟩) (0,ds_,os_.dropLast,(some ⟨ob,0,none⟩),c_,([(ob,.rows 1 c_ (rowE intE (os_++orest)) 3 (0,0))]:HL),f_,true) [0,1,2,3,4,5] [0] (⟨Nat.zero_le _,hs3,rfl,hv3⟩) ?_
    rintro ⟨j,d2_,o2_,A2_,c2_,T2_,f2_,g2_⟩ ⟨hj_,hs2_,hz2_,hv2_⟩ mt14
    have hro2_:=hv2_.room
    have hze2_:=zer_le d2_
    have hdp2_:=hv2_.dep
    have hdl2_:=hv2_.len
    refine RN.go 6 [] λ _=>RN.em ((j:Int) < (ns10.length:Int)) 71 (λ h15=>?_) λ h15=>?_
    ·refine RN.goP 23 [.ix j,.row 0 j 0,.own 5] [(0+j * 1)=j * 1+0 /\ j < ns10.length,(j:Int)=((j:Nat):Int) /\ j < ns10.length] λ _=>RN.em (ns10.getD j 0=(l.length:Int)) 74 (λ h16=>?_) λ h16=>?_
     ·refine RN.goP 12 [.own 3,.nw] [I64 ((j:Int)+1)] λ _=>?_
      refine mt14 (j+1,d2_,o2_,A2_,c2_,T2_,true,g2_) [0,1,2,3,4,5] [0] ?_
      try dsimp only
      exact ⟨⟨by omega,hs2_,hz2_,hv2_⟩,by omega⟩
     ·refine RN.go 3 [] λ _=>?_
      have hb1:=hns12 j (by omega)
      obtain ⟨kk,hkk⟩:=Int.eq_ofNat_of_zero_le hb1.1
      have hkk2:kk < l.length:=by omega
      have hdl2:=hv2_.len
      refine RN.sv 12 (congrArg (λ v_=>(vI v_:Value)) hkk)<|RN.goP 8 [.ix kk,.row 2 kk 0] [(0+kk * 1)=kk * 1+0 /\ kk < l.length,(kk:Int)=((kk:Nat):Int) /\ kk < l.length] λ _=>RN.em (d2_.getD kk 0=0) 81 (λ h17=>?_) λ h17=>?_
      ·refine RN.go 3 [] λ _=>?_
       have hdp:=hv2_.dep
       have hdr:=hv2_.room
       refine RN.goP 10 [.nw,.ix kk,.row 2 kk 0] [(0+kk * 1)=kk * 1+0 /\ kk < l.length,(kk:Int)=((kk:Nat):Int) /\ kk < l.length,I64 ((if 0 > ((ds_.getD k1 0) - 1)+((cQ (((l++rest).getD k1 dIns).op)) - (cP (((l++rest).getD k1 dIns).op))) then 0 else ((ds_.getD k1 0) - 1)+((cQ (((l++rest).getD k1 dIns).op)) - (cP (((l++rest).getD k1 dIns).op))))+1)] λ _=>RN.bv 2 (congrArg (λ v_=>(.rows 1 l.length v_ 3 (0,0):Blk)) (irow_set (cs:=d2_) (i:=kk) (by omega) ((if 0 > ((ds_.getD k1 0) - 1)+((cQ (((l++rest).getD k1 dIns).op)) - (cP (((l++rest).getD k1 dIns).op))) then 0 else ((ds_.getD k1 0) - 1)+((cQ (((l++rest).getD k1 dIns).op)) - (cP (((l++rest).getD k1 dIns).op))))+1)))<|RN.go 3 [] λ n18=>RN.app intEOk o2_ [(kk:Int)] 0 0 rfl hs2_ (by simp;omega) ?_
       rintro A19 c20 T21 ⟨hs22,hz23⟩
       have hv4:=hv2_.push hkk2 h17
       refine RN.sv 96 (congrArg (λ v_=>(.slice A19 v_ c20:Value)) (show o2_.length+1=(o2_++[(kk:Int)]).length by simp))<|RN.goP 9 [.nw] [I64 ((j:Int)+1)] λ _=>?_
       refine mt14 (j+1,(d2_.set kk ((if 0 > ((ds_.getD k1 0) - 1)+((cQ (((l++rest).getD k1 dIns).op)) - (cP (((l++rest).getD k1 dIns).op))) then 0 else ((ds_.getD k1 0) - 1)+((cQ (((l++rest).getD k1 dIns).op)) - (cP (((l++rest).getD k1 dIns).op))))+1)),(o2_++[(kk:Int)]),A19,c20,T21,f2_,g2_) [1,2,3,4,5,6] [0] ?_
       try dsimp only
       exact ⟨⟨by omega,hs22,(hz23 hz2_),hv4⟩,by omega⟩
      ·refine RN.go 3 [] λ _=>?_
       have hdp:=hv2_.dep
       have hdr:=hv2_.room
       refine RN.goP 10 [.ix kk,.row 2 kk 0,.nw] [I64 ((((ds_.getD k1 0) - 1)+((cQ (((l++rest).getD k1 dIns).op)) - (cP (((l++rest).getD k1 dIns).op))))+1),(0+kk * 1)=kk * 1+0 /\ kk < l.length,(kk:Int)=((kk:Nat):Int) /\ kk < l.length] λ _=>RN.en (d2_.getD kk 0=(((ds_.getD k1 0) - 1)+((cQ (((l++rest).getD k1 dIns).op)) - (cP (((l++rest).getD k1 dIns).op))))+1) 97 (λ h24=>?_) λ h24=>?_
       ·refine RN.goP 9 [.nw] [I64 ((j:Int)+1)] λ _=>?_
        refine mt14 (j+1,d2_,o2_,A2_,c2_,T2_,f2_,g2_) [0,1,2,3,4,5] [0] ?_
        try dsimp only
        exact ⟨⟨by omega,hs2_,hz2_,hv2_⟩,by omega⟩
       ·refine RN.goP 12 [.own 3,.nw] [I64 ((j:Int)+1)] λ _=>?_
        refine mt14 (j+1,d2_,o2_,A2_,c2_,T2_,f2_,true) [0,1,2,3,4,5] [0] ?_
        try dsimp only
        exact ⟨⟨by omega,hs2_,hz2_,hv2_⟩,by omega⟩
    ·refine RN.go 6 [] λ _=>?_
     refine mt4 (d2_,o2_,A2_,c2_,T2_,f2_,g2_,(if ((ds_.getD k1 0) - 1)+((cQ (((l++rest).getD k1 dIns).op)) - (cP (((l++rest).getD k1 dIns).op))) > d_ then ((ds_.getD k1 0) - 1)+((cQ (((l++rest).getD k1 dIns).op)) - (cP (((l++rest).getD k1 dIns).op))) else d_)) [2,3,4,5] [0] ?_
     try dsimp only
     refine ⟨⟨hs2_,hz2_,hv2_.to (by omega)⟩,?_⟩
     have hm_:=hv2_.le
     omega
  ·refine RN.goP 27 [.own 0,.own 0,.nw,.nw,.own 2,.own 2] [I64 (((ds_.getD k1 0) - 1)+((cQ (((l++rest).getD k1 dIns).op)) - (cP (((l++rest).getD k1 dIns).op)))),I64 ((cQ (((l++rest).getD k1 dIns).op)) - (cP (((l++rest).getD k1 dIns).op)))] λ _=>?_
   have hv3:AInv l.length (2 * zer ds_+os_.length - 1) (((ds_.getD k1 0) - 1)+((cQ (((l++rest).getD k1 dIns).op)) - (cP (((l++rest).getD k1 dIns).op)))) ds_ os_.dropLast:=AInv.pop ⟨hv_.len,hv_.oin,hv_.din,hv_.room,Nat.le_refl _,hv_.dep⟩ (by omega) (by omega)
   refine RN.go 2 [.own 4,.own 4,.own 4,.own 4] λ _=>RN.ct (Hp:=[]) (Tp:=[]) [] [] (succ_any b c k1 l rest e0 e1 e2 _ (ro_ap hb) hc (by omega) ok hn) ?_
   rintro v25 (_ | ⟨q26,ns27⟩) hr28
   ·obtain rfl:v25=Value.slice none 0 0:=hr28
    refine RN.go 5 [] λ _=>RN.rounds 1<|RN.go 12 [] λ _=>?_
    refine mt4 (ds_,os_.dropLast,(some ⟨ob,0,none⟩),c_,([(ob,.rows 1 c_ (rowE intE (os_++orest)) 3 (0,0))]:HL),f_,g_,(if ((ds_.getD k1 0) - 1)+((cQ (((l++rest).getD k1 dIns).op)) - (cP (((l++rest).getD k1 dIns).op))) > d_ then ((ds_.getD k1 0) - 1)+((cQ (((l++rest).getD k1 dIns).op)) - (cP (((l++rest).getD k1 dIns).op))) else d_)) [1,2,3,4] [0] ?_
    try dsimp only
    refine ⟨⟨hs3,rfl,hv3.to (by omega)⟩,?_⟩
    have hm_:=hv3.le
    omega
   ·obtain ⟨rfl,hns29,hns2⟩:v25=vS q26 0 ns27.length ns27.length /\ (∀ j,j < ns27.length -> 0 <= ns27.getD j 0 /\ ns27.getD j 0 <= l.length) /\ ns27.length <= 2:=hr28
    refine RN.go 5 [] λ _=>RN.loop (σ:=Nat × List Int × List Int × Option Addr × Nat × HL × Bool × Bool) (λ ⟨j,d2_,o2_,A2_,c2_,T2_,f2_,g2_⟩=>⟨[(2,vP (n1+0) 0),(4,vP (n1+1) 0),(5,vP (n1+2) 0),(6,vS (n1+3) 0 l.length l.length),(7,.slice A2_ o2_.length c2_),(10,vI (((ds_.getD k1 0) - 1)+((cQ (((l++rest).getD k1 dIns).op)) - (cP (((l++rest).getD k1 dIns).op))))),(68,vS q26 0 ns27.length ns27.length),(69,vI (ns27.length:Int)),(70,vI (j:Int))],[(q26,.rows 1 ns27.length (irow ns27) 3 (0,0)),((n6+0),.lit [vI (cP (((l++rest).getD k1 dIns).op)),vI (cQ (((l++rest).getD k1 dIns).op))] 137 (0,0)),((n1+3),.rows 1 l.length (irow d2_) 3 (0,0)),((n1+2),.lit [.bool f2_,.bool g2_,vI (if ((ds_.getD k1 0) - 1)+((cQ (((l++rest).getD k1 dIns).op)) - (cP (((l++rest).getD k1 dIns).op))) > d_ then ((ds_.getD k1 0) - 1)+((cQ (((l++rest).getD k1 dIns).op)) - (cP (((l++rest).getD k1 dIns).op))) else d_)] 108 (0,0)),((n1+1),.lit [.bool false,.bool false,vI 0] 108 (0,0)),((n1+0),.lit [vS b 0 l.length c,vI e0,vI e1,vI e2] 36 (0,0))],[T2_],j <= ns27.length /\ SlIs intE 3 o2_ A2_ c2_ T2_ /\ zeroOff A2_ /\ AInv l.length (2 * zer ds_+os_.length - 1) (((ds_.getD k1 0) - 1)+((cQ (((l++rest).getD k1 dIns).op)) - (cP (((l++rest).getD k1 dIns).op)))) d2_ o2_,ns27.length - j⟩) (0,ds_,os_.dropLast,(some ⟨ob,0,none⟩),c_,([(ob,.rows 1 c_ (rowE intE (os_++orest)) 3 (0,0))]:HL),f_,g_) [0,1,2,3,4,5] [0] (⟨Nat.zero_le _,hs3,rfl,hv3⟩) ?_
    rintro ⟨j,d2_,o2_,A2_,c2_,T2_,f2_,g2_⟩ ⟨hj_,hs2_,hz2_,hv2_⟩ mt31
    have hro2_:=hv2_.room
    have hze2_:=zer_le d2_
    have hdp2_:=hv2_.dep
    have hdl2_:=hv2_.len
    refine RN.go 6 [] λ _=>RN.em ((j:Int) < (ns27.length:Int)) 71 (λ h32=>?_) λ h32=>?_
    ·refine RN.goP 23 [.ix j,.row 0 j 0,.own 5] [(0+j * 1)=j * 1+0 /\ j < ns27.length,(j:Int)=((j:Nat):Int) /\ j < ns27.length] λ _=>RN.em (ns27.getD j 0=(l.length:Int)) 74 (λ h33=>?_) λ h33=>?_
     ·refine RN.goP 12 [.own 3,.nw] [I64 ((j:Int)+1)] λ _=>?_
      refine mt31 (j+1,d2_,o2_,A2_,c2_,T2_,true,g2_) [0,1,2,3,4,5] [0] ?_
      try dsimp only
      exact ⟨⟨by omega,hs2_,hz2_,hv2_⟩,by omega⟩
     ·refine RN.go 3 [] λ _=>?_
      have hb1:=hns29 j (by omega)
      obtain ⟨kk,hkk⟩:=Int.eq_ofNat_of_zero_le hb1.1
      have hkk2:kk < l.length:=by omega
      have hdl2:=hv2_.len
      refine RN.sv 12 (congrArg (λ v_=>(vI v_:Value)) hkk)<|RN.goP 8 [.ix kk,.row 2 kk 0] [(0+kk * 1)=kk * 1+0 /\ kk < l.length,(kk:Int)=((kk:Nat):Int) /\ kk < l.length] λ _=>RN.em (d2_.getD kk 0=0) 81 (λ h34=>?_) λ h34=>?_
      ·refine RN.go 3 [] λ _=>?_
       have hdp:=hv2_.dep
       have hdr:=hv2_.room
       refine RN.goP 10 [.nw,.ix kk,.row 2 kk 0] [(0+kk * 1)=kk * 1+0 /\ kk < l.length,(kk:Int)=((kk:Nat):Int) /\ kk < l.length,I64 ((if 0 > ((ds_.getD k1 0) - 1)+((cQ (((l++rest).getD k1 dIns).op)) - (cP (((l++rest).getD k1 dIns).op))) then 0 else ((ds_.getD k1 0) - 1)+((cQ (((l++rest).getD k1 dIns).op)) - (cP (((l++rest).getD k1 dIns).op))))+1)] λ _=>RN.bv 2 (congrArg (λ v_=>(.rows 1 l.length v_ 3 (0,0):Blk)) (irow_set (cs:=d2_) (i:=kk) (by omega) ((if 0 > ((ds_.getD k1 0) - 1)+((cQ (((l++rest).getD k1 dIns).op)) - (cP (((l++rest).getD k1 dIns).op))) then 0 else ((ds_.getD k1 0) - 1)+((cQ (((l++rest).getD k1 dIns).op)) - (cP (((l++rest).getD k1 dIns).op))))+1)))<|RN.go 3 [] λ n35=>RN.app intEOk o2_ [(kk:Int)] 0 0 rfl hs2_ (by simp;omega) ?_
       rintro A36 c37 T38 ⟨hs39,hz40⟩
       have hv4:=hv2_.push hkk2 h34
       refine RN.sv 96 (congrArg (λ v_=>(.slice A36 v_ c37:Value)) (show o2_.length+1=(o2_++[(kk:Int)]).length by simp))<|RN.goP 9 [.nw] [I64 ((j:Int)+1)] λ _=>?_
       refine mt31 (j+1,(d2_.set kk ((if 0 > ((ds_.getD k1 0) - 1)+((cQ (((l++rest).getD k1 dIns).op)) - (cP (((l++rest).getD k1 dIns).op))) then 0 else ((ds_.getD k1 0) - 1)+((cQ (((l++rest).getD k1 dIns).op)) - (cP (((l++rest).getD k1 dIns).op))))+1)),(o2_++[(kk:Int)]),A36,c37,T38,f2_,g2_) [1,2,3,4,5,6] [0] ?_
       try dsimp only
       exact ⟨⟨by omega,hs39,(hz40 hz2_),hv4⟩,by omega⟩
      ·refine RN.go 3 [] λ _=>?_
       have hdp:=hv2_.dep
       have hdr:=hv2_.room
       refine RN.goP 10 [.ix kk,.row 2 kk 0,.nw] [I64 ((((ds_.getD k1 0) - 1)+((cQ (((l++rest).getD k1 dIns).op)) - (cP (((l++rest).getD k1 dIns).op))))+1),(0+kk * 1)=kk * 1+0 /\ kk < l.length,(kk:Int)=((kk:Nat):Int) /\ kk < l.length] λ _=>RN.en (d2_.getD kk 0=(((ds_.getD k1 0) - 1)+((cQ (((l++rest).getD k1 dIns).op)) - (cP (((l++rest).getD k1 dIns).op))))+1) 97 (λ h41=>?_) λ h41=>?_
       ·refine RN.goP 9 [.nw] [I64 ((j:Int)+1)] λ _=>?_
        refine mt31 (j+1,d2_,o2_,A2_,c2_,T2_,f2_,g2_) [0,1,2,3,4,5] [0] ?_
        try dsimp only
        exact ⟨⟨by omega,hs2_,hz2_,hv2_⟩,by omega⟩
       ·refine RN.goP 12 [.own 3,.nw] [I64 ((j:Int)+1)] λ _=>?_
        refine mt31 (j+1,d2_,o2_,A2_,c2_,T2_,f2_,true) [0,1,2,3,4,5] [0] ?_
        try dsimp only
        exact ⟨⟨by omega,hs2_,hz2_,hv2_⟩,by omega⟩
    ·refine RN.go 6 [] λ _=>?_
     refine mt4 (d2_,o2_,A2_,c2_,T2_,f2_,g2_,(if ((ds_.getD k1 0) - 1)+((cQ (((l++rest).getD k1 dIns).op)) - (cP (((l++rest).getD k1 dIns).op))) > d_ then ((ds_.getD k1 0) - 1)+((cQ (((l++rest).getD k1 dIns).op)) - (cP (((l++rest).getD k1 dIns).op))) else d_)) [2,3,4,5] [0] ?_
     try dsimp only
     refine ⟨⟨hs2_,hz2_,hv2_.to (by omega)⟩,?_⟩
     have hm_:=hv2_.le
     omega
 ·refine RN.go 12 [.own 1,.own 1,.own 1,.own 2,.own 2,.own 2] λ _=>RN.ret [.own 2,.own 2,.own 2] [] [] (v:=.agg #[.bool f_,.bool g_,vI d_]) (H':=(ap [] [])) ?_
  exact ⟨(f_,g_,d_),rfl,rfl⟩
end Go.Proofs.YtkhifpbokgabbaaGreatDoor
