import Derived.Test.YtcfajdgeejeieaaGreatDoorR36
import Derived.Test.YtcfajdgeejeieaaGreatDoorR38
set_option maxHeartbeats 4000000
set_option maxRecDepth 100000
set_option linter.unusedSimpArgs false
set_option linter.unusedVariables false
namespace Go.Proofs.YtcfajdgeejeieaaGreatDoor
open Go.RowKit
noncomputable section
def nub (ν:Nu) (h:Nat):Nat:=match ν h with
  | some (b,_)=>b
  | none=>0
def kap (ν:Nu) (h c:Nat):Nat:=match Nat.blt c unk with
  | true=>c
  | false=>match ν h with
    | some (_,K)=>K - (c - unk)
    | none=>0
mutual
def outV (ν:Nu):Value -> Value
  | .pointer (some a)=>.pointer (some ⟨nub ν a.block,a.off,none⟩)
  | .slice (some a) n c=>.slice (some ⟨nub ν a.block,a.off,none⟩) n (kap ν a.block c)
  | .map (some h)=>.map (some (nub ν h))
  | .iface t v=>.iface t (outV ν v)
  | .agg c=>.agg (outA ν c)
  | .tuple c=>.tuple (outA ν c)
  | v=>v
def outA (ν:Nu):Array Value -> Array Value
  | ⟨l⟩=>⟨outL ν l⟩
def outL (ν:Nu):List Value -> List Value
  | []=>[]
  | v :: l=>outV ν v :: outL ν l
end
mutual
def okVi:Value -> Bool
  | .iface _ v=>okVi v
  | .func f a c=>pl (.func f a c)
  | .agg c=>okA c
  | .tuple c=>okA c
  | .chan _=>false
  | _=>true
def okA:Array Value -> Bool
  | ⟨l⟩=>okL l
def okL:List Value -> Bool
  | []=>true
  | v :: l=>match okVi v with
    | true=>okL l
    | false=>false
end
theorem outL_pt {ν:Nu}:∀ {l l':List Value},l.length=l'.length -> (∀ (i:Nat) (v v':Value),l[i]?=some v -> l'[i]?=some v' -> okVi v=true -> v'=outV ν v) -> okL l=true -> l'=outL ν l
  | [],[],_,_,_=>rfl
  | [],_ :: _,e,_,_=>by simp at e
  | _ :: _,[],e,_,_=>by simp at e
  | v :: l,v' :: l',e,h,ho=>by
    rw [okL] at ho
    cases hv:okVi v with
    | false=>rw [hv] at ho;cases ho
    | true =>
      rw [hv] at ho
      have a1:=h 0 v v' rfl rfl hv
      have a2:=outL_pt (l:=l) (l':=l') (by simpa using e) (λ i a b h1 h2=>h (i+1) a b (by simpa using h1) (by simpa using h2)) ho
      rw [outL,<- a1,<- a2]
theorem outV_eq {ν:Nu} {v v':Value} (h:VRi ν v v'):okVi v=true -> v'=outV ν v:=by
  induction h with
  | atom v h =>
    intro _
    cases v with
    | pointer a=>cases a with
      | none=>rfl
      | some a=>simp [atomV] at h
    | slice a n c=>cases a with
      | none=>rfl
      | some a=>simp [atomV] at h
    | map r=>cases r with
      | none=>rfl
      | some r=>simp [atomV] at h
    | iface t v=>simp [atomV] at h
    | agg c=>simp [atomV] at h
    | tuple c=>simp [atomV] at h
    | _=>rfl
  | ptr o h=>intro _;simp [outV,nub,h]
  | @slice hd b K c c' o n h hc =>
    intro _
    simp only [outV,nub,kap,h]
    congr 1
    cases hb:Nat.blt c unk with
    | true=>exact hc.1 (Eq.mp Nat.blt_eq hb)
    | false =>
      have h2:=hc.2 (le_of_blt_false hb)
      simp only
      omega
  | map h=>intro _;simp [outV,nub,h]
  | func hf e1 h1 e2 h2 _ _ =>
    intro ho
    have:=VRi.plain_eq (VRi.func hf e1 h1 e2 h2) (by simpa only [okVi] using ho)
    rw [this];rfl
  | iface t _ ih=>intro ho;rw [outV,<- ih (by simpa only [okVi] using ho)]
  | @agg c c' e _ ih =>
    intro ho
    obtain ⟨l⟩:=c
    obtain ⟨l'⟩:=c'
    simp only [List.getElem?_toArray] at ih
    rw [outV,outA,outL_pt (l:=l) (l':=l') e ih (by simpa only [okVi,okA] using ho)]
  | @tuple c c' e _ ih =>
    intro ho
    obtain ⟨l⟩:=c
    obtain ⟨l'⟩:=c'
    simp only [List.getElem?_toArray] at ih
    rw [outV,outA,outL_pt (l:=l) (l':=l') e ih (by simpa only [okVi,okA] using ho)]
theorem outL_eq {ν:Nu} {l l':List Value} (h:LR ν l l'):okL l=true -> l'=l.map (outV ν):=by
  induction h with
  | nil=>intro _;rfl
  | @cons v v' l l' h _ ih =>
    intro ho
    rw [okL] at ho
    cases hv:okVi v with
    | false=>rw [hv] at ho;cases ho
    | true =>
      rw [hv] at ho
      rw [List.map_cons,outV_eq h hv,ih ho]
abbrev PB:=Nat × List Value × TypeId
def chkB (H:AH) (p:PB):Bool:=match hget H p.1 with
  | some (.cells n t ty _ _)=>match Nat.beq n (lenL p.2.1),Nat.beq ty p.2.2 with
    | true,true=>match veqL (readN t 0 n) p.2.1 with
      | true=>okL p.2.1
      | false=>false
    | _,_=>false
  | _=>false
def chkBs (H:AH):List PB -> Bool
  | []=>true
  | p :: l=>match chkB H p with
    | true=>chkBs H l
    | false=>false
def restBi (ν:Nu) (w:World) (p:PB):List Value:=match w.heap[nub ν p.1]? with
  | some (.cells c _ _)=>c.toList.drop p.2.1.length
  | _=>[]
def pickB (ν:Nu) (rest:PB -> List Value) (p:PB):Nat × Blk:=(nub ν p.1,.lit (p.2.1.map (outV ν)++rest p) p.2.2 (0,0))
theorem veqL_eq (l l':List Value) (h:veqL l l'=true):l=l':=by
  induction l generalizing l' with
  | nil=>cases l' with
    | nil=>rfl
    | cons v l'=>simp [veqL] at h
  | cons v l ih=>cases l' with
    | nil=>simp [veqL] at h
    | cons v' l' =>
      rw [veqL] at h
      cases hv:veq v v' with
      | false=>rw [hv] at h;cases h
      | true=>rw [hv] at h;rw [veq_eq _ _ hv,ih _ h]
theorem pick_out {ν:Nu} {H:AH} {F:HL} {w:World} (hH:HR ν H F w) {p:PB} (hc:chkB H p=true) :
    (∃ K,ν p.1=some (nub ν p.1,K)) /\ (∃ b,hget H p.1=some b) /\ w.heap[nub ν p.1]?=some (pickB ν (restBi ν w) p).2.den:=by
  unfold chkB at hc
  split at hc
  case h_2=>cases hc
  rename_i n t ty ww ro hb
  split at hc
  case h_2=>cases hc
  rename_i e1 e2
  have e1:=Nat.eq_of_beq_eq_true e1
  have e2:=Nat.eq_of_beq_eq_true e2
  split at hc
  case h_2=>cases hc
  rename_i e3
  have e3:=veqL_eq _ _ e3
  obtain ⟨r,K,o,h1,h2,h3⟩:=hH.blk _ _ hb
  have hn:nub ν p.1=r:=by simp [nub,h1]
  have hcc:=hH.cells hb h1
  obtain ⟨c,ty',fz,g1,g2⟩:=hcc
  refine ⟨⟨K,by rw [hn];exact h1⟩,⟨_,hb⟩,?_⟩
  rw [hn,g1]
  have hr:=readN_rel g2.le g2.get n 0 (by omega)
  rw [e3] at hr
  have hl:=outL_eq hr hc
  rw [lenL_eq] at e1
  simp only [pickB,Blk.den,restBi,hn,g1,g2.ty,g2.fz,<- e2]
  congr 2
  apply Array.ext'
  simp only
  rw [<- hl,List.drop_zero,<- e1,List.take_append_drop]
def tabH:List PB -> AH
  | []=>.lf
  | p :: l=>hset (tabH l) p.1 (some (.cells (lenL p.2.1) (Tr.ofL undef p.2.1 0 .lf) p.2.2 1 true))
def tabN (tabs:List PB) (G:Nat):Nu:=λ h=>if h < G then some (h,match tabs.find? (λ p=>p.1 == h) with | some p=>p.2.1.length | none=>0) else none
def tabB (p:PB):Nat × Blk:=(p.1,.lit p.2.1 p.2.2 (0,0))
def tabOk (G:Nat):List PB -> Bool
  | []=>true
  | p :: l=>match Nat.blt p.1 G,plL p.2.1,l.any (λ q=>q.1 == p.1) with
    | true,true,false=>tabOk G l
    | _,_,_=>false
end
noncomputable section
theorem tab_get:∀ (tabs:List PB) (h:Nat),hget (tabH tabs) h=match tabs.find? (λ p=>p.1 == h) with
    | some p=>some (.cells (lenL p.2.1) (Tr.ofL undef p.2.1 0 .lf) p.2.2 1 true)
    | none=>none
  | [],h=>get_lf _
  | p :: l,h=>by
    rw [tabH,hget_set,tab_get l h]
    by_cases e:p.1=h
    · rw [if_pos e,List.find?_cons_of_pos (by simpa using e)]
    · rw [if_neg e,List.find?_cons_of_neg (by simpa using e)]
theorem tabOk_mem {G:Nat}:∀ {tabs:List PB},tabOk G tabs=true -> ∀ p ∈ tabs,p.1 < G /\ plL p.2.1=true
  | [],_,p,hp=>by simp at hp
  | q :: l,h,p,hp=>by
    rw [tabOk] at h
    split at h
    · rename_i h1 h2 h3
      rcases List.mem_cons.1 hp with rfl | hp
      · exact ⟨Eq.mp Nat.blt_eq h1,h2⟩
      · exact tabOk_mem h p hp
    · cases h
theorem plL_get:∀ {l:List Value},plL l=true -> ∀ {i:Nat} {v:Value},l[i]?=some v -> pl v=true
  | [],_,i,v,h=>by simp at h
  | x :: l,hp,i,v,h=>by
    rw [plL] at hp
    split at hp
    · rename_i hx
      cases i with
      | zero=>simp at h;rw [<- h];exact hx
      | succ i=>exact plL_get hp (by simpa using h)
    · cases hp
theorem find_some {tabs:List PB} {h:Nat} {p:PB} (e:tabs.find? (λ p=>p.1 == h)=some p):p ∈ tabs /\ p.1=h :=
  ⟨List.mem_of_find?_eq_some e,by simpa using List.find?_some e⟩
section
variable {tabs picks:List PB} {G:Nat} {F:HL} {w:World}
theorem tab_HR (ht:tabOk G tabs=true) (hR:Rel (tabs.map tabB++F) w):HR (tabN tabs G) (tabH tabs) F w:=by
  have key:∀ h b,hget (tabH tabs) h=some b -> ∃ p,tabs.find? (λ p=>p.1 == h)=some p /\ b=.cells (lenL p.2.1) (Tr.ofL undef p.2.1 0 .lf) p.2.2 1 true:=λ h b hb=>by
    rw [tab_get] at hb
    split at hb
    · rename_i p hp;cases hb;exact ⟨p,hp,rfl⟩
    · cases hb
  refine ⟨λ h b hb=>?_,λ h₁ h₂ b₁ b₂ r K₁ K₂ _ _ e1 e2=>?_,λ x hx=>hR.holds x (List.mem_append_right _ hx),λ h b r K hb e1 x hx=>?_⟩
  · obtain ⟨p,hp,rfl⟩:=key h b hb
    obtain ⟨hm,rfl⟩:=find_some hp
    obtain ⟨hlt,hpl⟩:=tabOk_mem ht p hm
    refine ⟨p.1,p.2.1.length,.cells ⟨p.2.1⟩ p.2.2 (0,0),by simp only [tabN,if_pos hlt,hp],?_,?_⟩
    · exact hR.holds (tabB p) (List.mem_append_left _ (List.mem_map.2 ⟨p,hm,rfl⟩))
    · refine ⟨rfl,by rw [lenL_eq];exact Nat.le_refl _,rfl,λ i hi=>?_,λ _=>by simp⟩
      rw [lenL_eq] at hi
      refine ⟨p.2.1[i],by simp [hi],?_⟩
      rw [ofL_get0 hi]
      exact VRi.plain_refl _ (plL_get hpl (List.getElem?_eq_getElem hi))
  · unfold tabN at e1 e2
    split at e1
    · split at e2
      · simp only [Option.some.injEq,Prod.mk.injEq] at e1 e2
        rw [e1.1,e2.1]
      · cases e2
    · cases e1
  · obtain ⟨p,hp,rfl⟩:=key h b hb
    obtain ⟨hm,rfl⟩:=find_some hp
    have hr:r=p.1:=by
      unfold tabN at e1
      split at e1
      · simp only [Option.some.injEq,Prod.mk.injEq] at e1;exact e1.1.symm
      · cases e1
    intro e
    have hn:=hR.nodup
    rw [List.map_append,List.nodup_append] at hn
    exact hn.2.2 p.1 (by rw [List.map_map];exact List.mem_map.2 ⟨p,hm,rfl⟩) x.1 (List.mem_map.2 ⟨x,hx,rfl⟩) (by rw [e,hr])
def chkT (H:AH) (p:PB):Bool:=match hget H p.1 with
  | some (.cells n t ty ww _)=>match Nat.beq n (lenL p.2.1),Nat.beq ty p.2.2,Nat.beq ww 1 with
    | true,true,true=>veqL (readN t 0 n) p.2.1
    | _,_,_=>false
  | _=>false
def chkTs (H:AH):List PB -> Bool
  | []=>true
  | p :: l=>match chkT H p with
    | true=>chkTs H l
    | false=>false
theorem chkTs_mem {H:AH}:∀ {l:List PB},chkTs H l=true -> ∀ p ∈ l,chkT H p=true
  | [],_,p,hp=>by simp at hp
  | q :: l,h,p,hp=>by
    rw [chkTs] at h
    split at h
    · rename_i h1
      rcases List.mem_cons.1 hp with rfl | hp
      · exact h1
      · exact chkTs_mem h p hp
    · cases h
theorem chkBs_mem {H:AH}:∀ {l:List PB},chkBs H l=true -> ∀ p ∈ l,chkB H p=true
  | [],_,p,hp=>by simp at hp
  | q :: l,h,p,hp=>by
    rw [chkBs] at h
    split at h
    · rename_i h1
      rcases List.mem_cons.1 hp with rfl | hp
      · exact h1
      · exact chkBs_mem h p hp
    · cases h
theorem LR.plain_eq {ν:Nu} {l l':List Value} (h:LR ν l l'):plL l=true -> l'=l:=by
  induction h with
  | nil=>intro _;rfl
  | @cons v v' l l' h _ ih =>
    intro hp
    rw [plL] at hp
    split at hp
    · rename_i hv;rw [VRi.plain_eq h hv,ih hp]
    · cases hp
theorem tab_out {ν:Nu} {H:AH} (hH:HR ν H F w) {p:PB} (hc:chkT H p=true) (hp:plL p.2.1=true) (hν:ν p.1=some (p.1,p.2.1.length)):w.heap[p.1]?=some (tabB p).2.den /\ ∃ b,hget H p.1=some b:=by
  unfold chkT at hc
  split at hc
  case h_2=>cases hc
  rename_i n t ty ww ro hb
  split at hc
  case h_2=>cases hc
  rename_i e1 e2 e3
  have e1:=Nat.eq_of_beq_eq_true e1
  have e2:=Nat.eq_of_beq_eq_true e2
  have e3:=Nat.eq_of_beq_eq_true e3
  have e4:=veqL_eq _ _ hc
  obtain ⟨c,ty',fz,g1,g2⟩:=hH.cells hb hν
  refine ⟨?_,_,hb⟩
  have hr:=readN_rel g2.le g2.get n 0 (by omega)
  rw [e4] at hr
  have hl:=hr.plain_eq hp
  have hsz:=g2.gr (by omega)
  rw [e3,Nat.mul_one] at hsz
  rw [lenL_eq] at e1
  rw [g1,g2.ty,g2.fz,e2]
  simp only [tabB,Blk.den]
  congr 2
  apply Array.ext'
  rw [List.drop_zero] at hl
  rw [<- hl,List.take_of_length_le]
  have:c.toList.length=c.size:=rfl
  omega
theorem nodup_uniq:∀ {l:List PB},(l.map (·.1)).Nodup -> ∀ {p q:PB},p ∈ l -> q ∈ l -> q.1=p.1 -> q=p
  | [],_,p,q,hp,_,_=>by simp at hp
  | x :: l,hd,p,q,hp,hq,e=>by
    simp only [List.map_cons,List.nodup_cons] at hd
    rcases List.mem_cons.1 hp with h1 | h1 <;> rcases List.mem_cons.1 hq with h2 | h2
    · rw [h1,h2]
    · exact absurd (List.mem_map.2 ⟨q,h2,by rw [e,h1]⟩) hd.1
    · exact absurd (List.mem_map.2 ⟨p,h1,by rw [<- e,h2]⟩) hd.1
    · exact nodup_uniq hd.2 h1 h2 e
def resQ (tabs picks:List PB) (v0:Value):Option Rs -> Bool
  | some (.fn v H _)=>match veq v v0,okVi v0,chkTs H tabs with
    | true,true,true=>chkBs H picks
    | _,_,_=>false
  | _=>false
theorem LR.plain_refl {ν:Nu}:∀ {l:List Value},plL l=true -> LR ν l l
  | [],_=>.nil
  | v :: l,h=>by
    rw [plL] at h
    split at h
    · rename_i hv;exact .cons (VRi.plain_refl v hv) (LR.plain_refl h)
    · cases h
theorem closed_sp {P:Program} (hm:P.follows .mixedOrders=true) {k n0:Nat} {f:FuncId} {args:List Value} {v0:Value} (hG:Nat.ble G n0=true) (ht:tabOk G tabs=true) (ha:plL args=true)
    (hnd:(tabs.map (·.1)++picks.map (·.1)).Nodup) (hrun:resQ tabs picks v0 (runK P G k (.fn f args (tabH tabs) n0))=true) :
    Sp P f ⟨args⟩ (tabs.map tabB) F λ v' H'=>∃ ν rest,v'=outV ν v0 /\ H'=tabs.map tabB++picks.map (pickB ν rest):=by
  intro w hR
  have hG:=le_of_ble hG
  cases hres:runK P G k (.fn f args (tabH tabs) n0) with
  | none=>rw [hres] at hrun;cases hrun
  | some res=>cases res with
    | cd e s=>rw [hres] at hrun;cases hrun
    | fn v H n' =>
      rw [hres] at hrun
      simp only [resQ] at hrun
      split at hrun
      case h_2=>cases hrun
      rename_i q1 q2 q3
      rw [runK_eq] at hres
      obtain ⟨hn,hcall⟩:=runA_ok hm k _ _ hres
      have hlt:∀ p ∈ tabs,p.1 < G:=λ p hp=>(tabOk_mem ht p hp).1
      refine (hcall (tabN tabs G) F w args (λ k hk=>⟨_,if_pos hk⟩) (λ h h1 h2=>by simp only [tabN];rw [if_neg (by omega)]) (tab_HR ht hR) (LR.plain_refl ha)).mono ?_
      rintro e w' ⟨ν,v',rfl,hv,hext,hH,hbel⟩
      rw [veq_eq _ _ q1] at hv
      have hνt:∀ p ∈ tabs,ν p.1=tabN tabs G p.1:=λ p hp=>hext.out _ (.inl (by have:=hlt p hp;omega))
      have hfind:∀ p ∈ tabs,ν p.1=some (p.1,p.2.1.length):=λ p hp=>by
        rw [hνt p hp]
        simp only [tabN,if_pos (hlt p hp)]
        congr 2
        have hd:(tabs.map (·.1)).Nodup:=(List.nodup_append.1 hnd).1
        cases hf:tabs.find? (λ q=>q.1 == p.1) with
        | none=>exact absurd (List.find?_eq_none.1 hf p hp) (by simp)
        | some q =>
          obtain ⟨hq,hq2⟩:=find_some hf
          have:q=p:=nodup_uniq hd hp hq hq2
          simp [this]
      have htab:∀ p ∈ tabs,w'.heap[p.1]?=some (tabB p).2.den /\ ∃ b,hget H p.1=some b:=λ p hp=>tab_out hH (chkTs_mem q3 p hp) (tabOk_mem ht p hp).2 (hfind p hp)
      have hpk:∀ p ∈ picks,(∃ K,ν p.1=some (nub ν p.1,K)) /\ (∃ b,hget H p.1=some b) /\ w'.heap[nub ν p.1]?=some (pickB ν (restBi ν w') p).2.den:=λ p hp=>pick_out hH (chkBs_mem hrun p hp)
      refine ⟨v',tabs.map tabB++picks.map (pickB ν (restBi ν w')),rfl,⟨ν,restBi ν w',outV_eq hv q2,rfl⟩,⟨?_,?_⟩,hbel⟩
      · intro x hx
        rcases List.mem_append.1 hx with hx | hx
        · rcases List.mem_append.1 hx with hx | hx
          · obtain ⟨p,hp,rfl⟩:=List.mem_map.1 hx
            exact (htab p hp).1
          · obtain ⟨p,hp,rfl⟩:=List.mem_map.1 hx
            exact (hpk p hp).2.2
        · exact hH.frm x hx
      · -- the handles' blocks
        have hall:∀ h ∈ tabs.map (·.1)++picks.map (·.1),∃ K b,ν h=some (nub ν h,K) /\ hget H h=some b:=λ h hh=>by
          rcases List.mem_append.1 hh with hh | hh
          · obtain ⟨p,hp,rfl⟩:=List.mem_map.1 hh
            obtain ⟨b,hb⟩:=(htab p hp).2
            exact ⟨p.2.1.length,b,by simp [nub,hfind p hp],hb⟩
          · obtain ⟨p,hp,rfl⟩:=List.mem_map.1 hh
            obtain ⟨⟨K,h1⟩,⟨b,hb⟩,-⟩:=hpk p hp
            exact ⟨K,b,h1,hb⟩
        have e1:(tabs.map tabB++picks.map (pickB ν (restBi ν w'))).map (·.1)=(tabs.map (·.1)++picks.map (·.1)).map (nub ν):=by
          simp only [List.map_append,List.map_map]
          congr 1
          apply List.map_congr_left
          intro p hp
          simp [tabB,nub,hfind p hp]
        rw [List.map_append,List.nodup_append,e1]
        refine ⟨?_,?_,λ a ha b hb=>?_⟩
        · rw [List.Nodup,List.pairwise_map]
          refine (List.pairwise_iff_forall_sublist.2 λ {a b} hs=>?_)
          have ha':=hall a (hs.subset (by simp))
          have hb':=hall b (hs.subset (by simp))
          obtain ⟨K1,b1,x1,x2⟩:=ha'
          obtain ⟨K2,b2,y1,y2⟩:=hb'
          intro e
          have hab:a=b:=hH.inj _ _ _ _ _ _ _ x2 y2 x1 (by rw [e];exact y1)
          have:=hnd.sublist hs
          simp [hab] at this
        · have:=hR.nodup
          rw [List.map_append,List.nodup_append] at this
          exact this.2.1
        · obtain ⟨h,hh,rfl⟩:=List.mem_map.1 ha
          obtain ⟨x,hx,rfl⟩:=List.mem_map.1 hb
          obtain ⟨K,b,g1,g2⟩:=hall h hh
          exact (hH.apt _ _ _ _ g2 g1 x hx).symm
end
end
theorem Sp.table {P:Program} {f:FuncId} {args:Array Value} {x:Nat × Blk} {F:HL} {Q:Value -> HL -> Prop} (hx:x ∈ F) (h:∀ F0,Sp P f args [x] F0 λ u H'=>∃ Hp,Q u Hp /\ H'=[x]++Hp):Sp P f args [] F Q:=by
  obtain ⟨l1,l2,rfl⟩:=List.append_of_mem hx
  have hp:∀ H:HL,([x]++H++(l1++l2)).Perm (H++(l1++x :: l2)):=λ H=>by
    refine List.Perm.trans ?_ (List.Perm.append_left H List.perm_middle.symm)
    show (x :: (H++(l1++l2))).Perm (H++x :: (l1++l2))
    exact List.perm_middle.symm
  intro w hR
  have hR1:Rel ([x]++(l1++l2)) w:=hR.perm (by have:=hp [];simpa using this)
  refine (h (l1++l2) w hR1).mono ?_
  rintro e w' ⟨v,H',he,⟨Hp,hq,rfl⟩,hR',hb⟩
  exact ⟨v,Hp,he,hq,hR'.perm (hp Hp).symm,hb⟩
end Go.Proofs.YtcfajdgeejeieaaGreatDoor
