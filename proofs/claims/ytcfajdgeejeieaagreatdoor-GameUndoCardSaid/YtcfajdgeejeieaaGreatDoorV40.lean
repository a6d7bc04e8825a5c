import Derived.Test.YtcfajdgeejeieaaGreatDoorV37
import Derived.Test.YtcfajdgeejeieaaGreatDoorV39
import Derived.Test.YtcfajdgeejeieaaGreatDoorProg
import Derived.Test.YtcfajdgeejeieaaGreatDoorV29
import Derived.Test.YtcfajdgeejeieaaGreatDoorV12
set_option maxHeartbeats 4000000
set_option maxRecDepth 100000
set_option linter.unusedSimpArgs false
set_option linter.unusedVariables false
namespace Go.Proofs.YtcfajdgeejeieaaGreatDoor
open Go.RowKit
noncomputable section
def nub (ν:Nu) (h:Nat):Nat:=match ν h with
  | some (b,_)=>b
  | none=>0
def kap (ν:Nu) (h c:Nat):Nat:=match Nat.blt c unk with
  | true=>c
  | false=>match ν h with
    | some (_,K)=>K - (c - unk)
    | none=>0
mutual
def outV (ν:Nu):Value -> Value
  | .pointer (some a)=>.pointer (some ⟨nub ν a.block,a.off,none⟩)
  | .slice (some a) n c=>.slice (some ⟨nub ν a.block,a.off,none⟩) n (kap ν a.block c)
  | .map (some h)=>.map (some (nub ν h))
  | .iface t v=>.iface t (outV ν v)
  | .agg c=>.agg (outA ν c)
  | .tuple c=>.tuple (outA ν c)
  | v=>v
def outA (ν:Nu):Array Value -> Array Value
  | ⟨l⟩=>⟨outL ν l⟩
def outL (ν:Nu):List Value -> List Value
  | []=>[]
  | v :: l=>outV ν v :: outL ν l
end
mutual
def okVi:Value -> Bool
  | .iface _ v=>okVi v
  | .func f a c=>pl (.func f a c)
  | .agg c=>okA c
  | .tuple c=>okA c
  | .chan _=>false
  | _=>true
def okA:Array Value -> Bool
  | ⟨l⟩=>okL l
def okL:List Value -> Bool
  | []=>true
  | v :: l=>match okVi v with
    | true=>okL l
    | false=>false
end
theorem outL_pt {ν:Nu}:∀ {l l':List Value},l.length=l'.length -> (∀ (i:Nat) (v v':Value),l[i]?=some v -> l'[i]?=some v' -> okVi v=true -> v'=outV ν v) -> okL l=true -> l'=outL ν l
  | [],[],_,_,_=>rfl
  | [],_ :: _,e,_,_=>by simp at e
  | _ :: _,[],e,_,_=>by simp at e
  | v :: l,v' :: l',e,h,ho=>by
    rw [okL] at ho
    cases hv:okVi v with
    | false=>rw [hv] at ho;cases ho
    | true =>
      rw [hv] at ho
      have a1:=h 0 v v' rfl rfl hv
      have a2:=outL_pt (l:=l) (l':=l') (by simpa using e) (λ i a b h1 h2=>h (i+1) a b (by simpa using h1) (by simpa using h2)) ho
      rw [outL,<- a1,<- a2]
theorem outV_eq {ν:Nu} {v v':Value} (h:VRi ν v v'):okVi v=true -> v'=outV ν v:=by
  induction h with
  | atom v h =>
    intro _
    cases v with
    | pointer a=>cases a with
      | none=>rfl
      | some a=>simp [atomV] at h
    | slice a n c=>cases a with
      | none=>rfl
      | some a=>simp [atomV] at h
    | map r=>cases r with
      | none=>rfl
      | some r=>simp [atomV] at h
    | iface t v=>simp [atomV] at h
    | agg c=>simp [atomV] at h
    | tuple c=>simp [atomV] at h
    | _=>rfl
  | ptr o h=>intro _;simp [outV,nub,h]
  | @slice hd b K c c' o n h hc =>
    intro _
    simp only [outV,nub,kap,h]
    congr 1
    cases hb:Nat.blt c unk with
    | true=>exact hc.1 (Eq.mp Nat.blt_eq hb)
    | false =>
      have h2:=hc.2 (le_of_blt_false hb)
      simp only
      omega
  | map h=>intro _;simp [outV,nub,h]
  | func hf e1 h1 e2 h2 _ _ =>
    intro ho
    have:=VRi.plain_eq (VRi.func hf e1 h1 e2 h2) (by simpa only [okVi] using ho)
    rw [this];rfl
  | iface t _ ih=>intro ho;rw [outV,<- ih (by simpa only [okVi] using ho)]
  | @agg c c' e _ ih =>
    intro ho
    obtain ⟨l⟩:=c
    obtain ⟨l'⟩:=c'
    simp only [List.getElem?_toArray] at ih
    rw [outV,outA,outL_pt (l:=l) (l':=l') e ih (by simpa only [okVi,okA] using ho)]
  | @tuple c c' e _ ih =>
    intro ho
    obtain ⟨l⟩:=c
    obtain ⟨l'⟩:=c'
    simp only [List.getElem?_toArray] at ih
    rw [outV,outA,outL_pt (l:=l) (l':=l') e ih (by simpa only [okVi,okA] using ho)]
theorem outL_eq {ν:Nu} {l l':List Value} (h:LR ν l l'):okL l=true -> l'=l.map (outV ν):=by
  induction h with
  | nil=>intro _;rfl
  | @cons v v' l l' h _ ih =>
    intro ho
    rw [okL] at ho
    cases hv:okVi v with
    | false=>rw [hv] at ho;cases ho
    | true =>
      rw [hv] at ho
      rw [List.map_cons,outV_eq h hv,ih ho]
abbrev PB:=Nat × List Value × TypeId
def chkB (H:AH) (p:PB):Bool:=match hget H p.1 with
  | some (.cells n t ty _ _)=>match Nat.beq n (lenL p.2.1),Nat.beq ty p.2.2 with
    | true,true=>match veqL (readN t 0 n) p.2.1 with
      | true=>okL p.2.1
      | false=>false
    | _,_=>false
  | _=>false
def chkBs (H:AH):List PB -> Bool
  | []=>true
  | p :: l=>match chkB H p with
    | true=>chkBs H l
    | false=>false
def restBi (ν:Nu) (w:World) (p:PB):List Value:=match w.heap[nub ν p.1]? with
  | some (.cells c _ _)=>c.toList.drop p.2.1.length
  | _=>[]
def pickB (ν:Nu) (rest:PB -> List Value) (p:PB):Nat × Blk:=(nub ν p.1,.lit (p.2.1.map (outV ν)++rest p) p.2.2 (0,0))
theorem veqL_eq (l l':List Value) (h:veqL l l'=true):l=l':=by
  induction l generalizing l' with
  | nil=>cases l' with
    | nil=>rfl
    | cons v l'=>simp [veqL] at h
  | cons v l ih=>cases l' with
    | nil=>simp [veqL] at h
    | cons v' l' =>
      rw [veqL] at h
      cases hv:veq v v' with
      | false=>rw [hv] at h;cases h
      | true=>rw [hv] at h;rw [veq_eq _ _ hv,ih _ h]
theorem pick_out {ν:Nu} {H:AH} {F:HL} {w:World} (hH:HR ν H F w) {p:PB} (hc:chkB H p=true) :
    (∃ K,ν p.1=some (nub ν p.1,K)) /\ (∃ b,hget H p.1=some b) /\ w.heap[nub ν p.1]?=some (pickB ν (restBi ν w) p).2.den:=by
  unfold chkB at hc
  split at hc
  case h_2=>cases hc
  rename_i n t ty ww ro hb
  split at hc
  case h_2=>cases hc
  rename_i e1 e2
  have e1:=Nat.eq_of_beq_eq_true e1
  have e2:=Nat.eq_of_beq_eq_true e2
  split at hc
  case h_2=>cases hc
  rename_i e3
  have e3:=veqL_eq _ _ e3
  obtain ⟨r,K,o,h1,h2,h3⟩:=hH.blk _ _ hb
  have hn:nub ν p.1=r:=by simp [nub,h1]
  have hcc:=hH.cells hb h1
  obtain ⟨c,ty',fz,g1,g2⟩:=hcc
  refine ⟨⟨K,by rw [hn];exact h1⟩,⟨_,hb⟩,?_⟩
  rw [hn,g1]
  have hr:=readN_rel g2.le g2.get n 0 (by omega)
  rw [e3] at hr
  have hl:=outL_eq hr hc
  rw [lenL_eq] at e1
  simp only [pickB,Blk.den,restBi,hn,g1,g2.ty,g2.fz,<- e2]
  congr 2
  apply Array.ext'
  simp only
  rw [<- hl,List.drop_zero,<- e1,List.take_append_drop]
def tabH:List PB -> AH
  | []=>.lf
  | p :: l=>hset (tabH l) p.1 (some (.cells (lenL p.2.1) (Tr.ofL undef p.2.1 0 .lf) p.2.2 1 true))
def tabN (tabs:List PB) (G:Nat):Nu:=λ h=>if h < G then some (h,match tabs.find? (λ p=>p.1 == h) with | some p=>p.2.1.length | none=>0) else none
def tabB (p:PB):Nat × Blk:=(p.1,.lit p.2.1 p.2.2 (0,0))
def tabOk (G:Nat):List PB -> Bool
  | []=>true
  | p :: l=>match Nat.blt p.1 G,plL p.2.1,l.any (λ q=>q.1 == p.1) with
    | true,true,false=>tabOk G l
    | _,_,_=>false
end
noncomputable section
theorem tab_get:∀ (tabs:List PB) (h:Nat),hget (tabH tabs) h=match tabs.find? (λ p=>p.1 == h) with
    | some p=>some (.cells (lenL p.2.1) (Tr.ofL undef p.2.1 0 .lf) p.2.2 1 true)
    | none=>none
  | [],h=>get_lf _
  | p :: l,h=>by
    rw [tabH,hget_set,tab_get l h]
    by_cases e:p.1=h
    · rw [if_pos e,List.find?_cons_of_pos (by simpa using e)]
    · rw [if_neg e,List.find?_cons_of_neg (by simpa using e)]
theorem tabOk_mem {G:Nat}:∀ {tabs:List PB},tabOk G tabs=true -> ∀ p ∈ tabs,p.1 < G /\ plL p.2.1=true
  | [],_,p,hp=>by simp at hp
  | q :: l,h,p,hp=>by
    rw [tabOk] at h
    split at h
    · rename_i h1 h2 h3
      rcases List.mem_cons.1 hp with rfl | hp
      · exact ⟨Eq.mp Nat.blt_eq h1,h2⟩
      · exact tabOk_mem h p hp
    · cases h
theorem plL_get:∀ {l:List Value},plL l=true -> ∀ {i:Nat} {v:Value},l[i]?=some v -> pl v=true
  | [],_,i,v,h=>by simp at h
  | x :: l,hp,i,v,h=>by
    rw [plL] at hp
    split at hp
    · rename_i hx
      cases i with
      | zero=>simp at h;rw [<- h];exact hx
      | succ i=>exact plL_get hp (by simpa using h)
    · cases hp
theorem find_some {tabs:List PB} {h:Nat} {p:PB} (e:tabs.find? (λ p=>p.1 == h)=some p):p ∈ tabs /\ p.1=h :=
  ⟨List.mem_of_find?_eq_some e,by simpa using List.find?_some e⟩
section
variable {tabs picks:List PB} {G:Nat} {F:HL} {w:World}
theorem tab_HR (ht:tabOk G tabs=true) (hR:Rel (tabs.map tabB++F) w):HR (tabN tabs G) (tabH tabs) F w:=by
  have key:∀ h b,hget (tabH tabs) h=some b -> ∃ p,tabs.find? (λ p=>p.1 == h)=some p /\ b=.cells (lenL p.2.1) (Tr.ofL undef p.2.1 0 .lf) p.2.2 1 true:=λ h b hb=>by
    rw [tab_get] at hb
    split at hb
    · rename_i p hp;cases hb;exact ⟨p,hp,rfl⟩
    · cases hb
  refine ⟨λ h b hb=>?_,λ h₁ h₂ b₁ b₂ r K₁ K₂ _ _ e1 e2=>?_,λ x hx=>hR.holds x (List.mem_append_right _ hx),λ h b r K hb e1 x hx=>?_⟩
  · obtain ⟨p,hp,rfl⟩:=key h b hb
    obtain ⟨hm,rfl⟩:=find_some hp
    obtain ⟨hlt,hpl⟩:=tabOk_mem ht p hm
    refine ⟨p.1,p.2.1.length,.cells ⟨p.2.1⟩ p.2.2 (0,0),by simp only [tabN,if_pos hlt,hp],?_,?_⟩
    · exact hR.holds (tabB p) (List.mem_append_left _ (List.mem_map.2 ⟨p,hm,rfl⟩))
    · refine ⟨rfl,by rw [lenL_eq];exact Nat.le_refl _,rfl,λ i hi=>?_,λ _=>by simp⟩
      rw [lenL_eq] at hi
      refine ⟨p.2.1[i],by simp [hi],?_⟩
      rw [ofL_get0 hi]
      exact VRi.plain_refl _ (plL_get hpl (List.getElem?_eq_getElem hi))
  · unfold tabN at e1 e2
    split at e1
    · split at e2
      · simp only [Option.some.injEq,Prod.mk.injEq] at e1 e2
        rw [e1.1,e2.1]
      · cases e2
    · cases e1
  · obtain ⟨p,hp,rfl⟩:=key h b hb
    obtain ⟨hm,rfl⟩:=find_some hp
    have hr:r=p.1:=by
      unfold tabN at e1
      split at e1
      · simp only [Option.some.injEq,Prod.mk.injEq] at e1;exact e1.1.symm
      · cases e1
    intro e
    have hn:=hR.nodup
    rw [List.map_append,List.nodup_append] at hn
    exact hn.2.2 p.1 (by rw [List.map_map];exact List.mem_map.2 ⟨p,hm,rfl⟩) x.1 (List.mem_map.2 ⟨x,hx,rfl⟩) (by rw [e,hr])
def chkT (H:AH) (p:PB):Bool:=match hget H p.1 with
  | some (.cells n t ty ww _)=>match Nat.beq n (lenL p.2.1),Nat.beq ty p.2.2,Nat.beq ww 1 with
    | true,true,true=>veqL (readN t 0 n) p.2.1
    | _,_,_=>false
  | _=>false
def chkTs (H:AH):List PB -> Bool
  | []=>true
  | p :: l=>match chkT H p with
    | true=>chkTs H l
    | false=>false
theorem chkTs_mem {H:AH}:∀ {l:List PB},chkTs H l=true -> ∀ p ∈ l,chkT H p=true
  | [],_,p,hp=>by simp at hp
  | q :: l,h,p,hp=>by
    rw [chkTs] at h
    split at h
    · rename_i h1
      rcases List.mem_cons.1 hp with rfl | hp
      · exact h1
      · exact chkTs_mem h p hp
    · cases h
theorem chkBs_mem {H:AH}:∀ {l:List PB},chkBs H l=true -> ∀ p ∈ l,chkB H p=true
  | [],_,p,hp=>by simp at hp
  | q :: l,h,p,hp=>by
    rw [chkBs] at h
    split at h
    · rename_i h1
      rcases List.mem_cons.1 hp with rfl | hp
      · exact h1
      · exact chkBs_mem h p hp
    · cases h
theorem LR.plain_eq {ν:Nu} {l l':List Value} (h:LR ν l l'):plL l=true -> l'=l:=by
  induction h with
  | nil=>intro _;rfl
  | @cons v v' l l' h _ ih =>
    intro hp
    rw [plL] at hp
    split at hp
    · rename_i hv;rw [VRi.plain_eq h hv,ih hp]
    · cases hp
theorem tab_out {ν:Nu} {H:AH} (hH:HR ν H F w) {p:PB} (hc:chkT H p=true) (hp:plL p.2.1=true) (hν:ν p.1=some (p.1,p.2.1.length)):w.heap[p.1]?=some (tabB p).2.den /\ ∃ b,hget H p.1=some b:=by
  unfold chkT at hc
  split at hc
  case h_2=>cases hc
  rename_i n t ty ww ro hb
  split at hc
  case h_2=>cases hc
  rename_i e1 e2 e3
  have e1:=Nat.eq_of_beq_eq_true e1
  have e2:=Nat.eq_of_beq_eq_true e2
  have e3:=Nat.eq_of_beq_eq_true e3
  have e4:=veqL_eq _ _ hc
  obtain ⟨c,ty',fz,g1,g2⟩:=hH.cells hb hν
  refine ⟨?_,_,hb⟩
  have hr:=readN_rel g2.le g2.get n 0 (by omega)
  rw [e4] at hr
  have hl:=hr.plain_eq hp
  have hsz:=g2.gr (by omega)
  rw [e3,Nat.mul_one] at hsz
  rw [lenL_eq] at e1
  rw [g1,g2.ty,g2.fz,e2]
  simp only [tabB,Blk.den]
  congr 2
  apply Array.ext'
  rw [List.drop_zero] at hl
  rw [<- hl,List.take_of_length_le]
  have:c.toList.length=c.size:=rfl
  omega
theorem nodup_uniq:∀ {l:List PB},(l.map (·.1)).Nodup -> ∀ {p q:PB},p ∈ l -> q ∈ l -> q.1=p.1 -> q=p
  | [],_,p,q,hp,_,_=>by simp at hp
  | x :: l,hd,p,q,hp,hq,e=>by
    simp only [List.map_cons,List.nodup_cons] at hd
    rcases List.mem_cons.1 hp with h1 | h1 <;> rcases List.mem_cons.1 hq with h2 | h2
    · rw [h1,h2]
    · exact absurd (List.mem_map.2 ⟨q,h2,by rw [e,h1]⟩) hd.1
    · exact absurd (List.mem_map.2 ⟨p,h1,by rw [<- e,h2]⟩) hd.1
    · exact nodup_uniq hd.2 h1 h2 e
def resQ (tabs picks:List PB) (v0:Value):Option Rs -> Bool
  | some (.fn v H _)=>match veq v v0,okVi v0,chkTs H tabs with
    | true,true,true=>chkBs H picks
    | _,_,_=>false
  | _=>false
theorem LR.plain_refl {ν:Nu}:∀ {l:List Value},plL l=true -> LR ν l l
  | [],_=>.nil
  | v :: l,h=>by
    rw [plL] at h
    split at h
    · rename_i hv;exact .cons (VRi.plain_refl v hv) (LR.plain_refl h)
    · cases h
theorem closed_sp {P:Program} (hm:P.follows .mixedOrders=true) {k n0:Nat} {f:FuncId} {args:List Value} {v0:Value} (hG:Nat.ble G n0=true) (ht:tabOk G tabs=true) (ha:plL args=true)
    (hnd:(tabs.map (·.1)++picks.map (·.1)).Nodup) (hrun:resQ tabs picks v0 (runK P G k (.fn f args (tabH tabs) n0))=true) :
    Sp P f ⟨args⟩ (tabs.map tabB) F λ v' H'=>∃ ν rest,v'=outV ν v0 /\ H'=tabs.map tabB++picks.map (pickB ν rest):=by
  intro w hR
  have hG:=le_of_ble hG
  cases hres:runK P G k (.fn f args (tabH tabs) n0) with
  | none=>rw [hres] at hrun;cases hrun
  | some res=>cases res with
    | cd e s=>rw [hres] at hrun;cases hrun
    | fn v H n' =>
      rw [hres] at hrun
      simp only [resQ] at hrun
      split at hrun
      case h_2=>cases hrun
      rename_i q1 q2 q3
      rw [runK_eq] at hres
      obtain ⟨hn,hcall⟩:=runA_ok hm k _ _ hres
      have hlt:∀ p ∈ tabs,p.1 < G:=λ p hp=>(tabOk_mem ht p hp).1
      refine (hcall (tabN tabs G) F w args (λ k hk=>⟨_,if_pos hk⟩) (λ h h1 h2=>by simp only [tabN];rw [if_neg (by omega)]) (tab_HR ht hR) (LR.plain_refl ha)).mono ?_
      rintro e w' ⟨ν,v',rfl,hv,hext,hH,hbel⟩
      rw [veq_eq _ _ q1] at hv
      have hνt:∀ p ∈ tabs,ν p.1=tabN tabs G p.1:=λ p hp=>hext.out _ (.inl (by have:=hlt p hp;omega))
      have hfind:∀ p ∈ tabs,ν p.1=some (p.1,p.2.1.length):=λ p hp=>by
        rw [hνt p hp]
        simp only [tabN,if_pos (hlt p hp)]
        congr 2
        have hd:(tabs.map (·.1)).Nodup:=(List.nodup_append.1 hnd).1
        cases hf:tabs.find? (λ q=>q.1 == p.1) with
        | none=>exact absurd (List.find?_eq_none.1 hf p hp) (by simp)
        | some q =>
          obtain ⟨hq,hq2⟩:=find_some hf
          have:q=p:=nodup_uniq hd hp hq hq2
          simp [this]
      have htab:∀ p ∈ tabs,w'.heap[p.1]?=some (tabB p).2.den /\ ∃ b,hget H p.1=some b:=λ p hp=>tab_out hH (chkTs_mem q3 p hp) (tabOk_mem ht p hp).2 (hfind p hp)
      have hpk:∀ p ∈ picks,(∃ K,ν p.1=some (nub ν p.1,K)) /\ (∃ b,hget H p.1=some b) /\ w'.heap[nub ν p.1]?=some (pickB ν (restBi ν w') p).2.den:=λ p hp=>pick_out hH (chkBs_mem hrun p hp)
      refine ⟨v',tabs.map tabB++picks.map (pickB ν (restBi ν w')),rfl,⟨ν,restBi ν w',outV_eq hv q2,rfl⟩,⟨?_,?_⟩,hbel⟩
      · intro x hx
        rcases List.mem_append.1 hx with hx | hx
        · rcases List.mem_append.1 hx with hx | hx
          · obtain ⟨p,hp,rfl⟩:=List.mem_map.1 hx
            exact (htab p hp).1
          · obtain ⟨p,hp,rfl⟩:=List.mem_map.1 hx
            exact (hpk p hp).2.2
        · exact hH.frm x hx
      · -- the handles' blocks
        have hall:∀ h ∈ tabs.map (·.1)++picks.map (·.1),∃ K b,ν h=some (nub ν h,K) /\ hget H h=some b:=λ h hh=>by
          rcases List.mem_append.1 hh with hh | hh
          · obtain ⟨p,hp,rfl⟩:=List.mem_map.1 hh
            obtain ⟨b,hb⟩:=(htab p hp).2
            exact ⟨p.2.1.length,b,by simp [nub,hfind p hp],hb⟩
          · obtain ⟨p,hp,rfl⟩:=List.mem_map.1 hh
            obtain ⟨⟨K,h1⟩,⟨b,hb⟩,-⟩:=hpk p hp
            exact ⟨K,b,h1,hb⟩
        have e1:(tabs.map tabB++picks.map (pickB ν (restBi ν w'))).map (·.1)=(tabs.map (·.1)++picks.map (·.1)).map (nub ν):=by
          simp only [List.map_append,List.map_map]
          congr 1
          apply List.map_congr_left
          intro p hp
          simp [tabB,nub,hfind p hp]
        rw [List.map_append,List.nodup_append,e1]
        refine ⟨?_,?_,λ a ha b hb=>?_⟩
        · rw [List.Nodup,List.pairwise_map]
          refine (List.pairwise_iff_forall_sublist.2 λ {a b} hs=>?_)
          have ha':=hall a (hs.subset (by simp))
          have hb':=hall b (hs.subset (by simp))
          obtain ⟨K1,b1,x1,x2⟩:=ha'
          obtain ⟨K2,b2,y1,y2⟩:=hb'
          intro e
          have hab:a=b:=hH.inj _ _ _ _ _ _ _ x2 y2 x1 (by rw [e];exact y1)
          have:=hnd.sublist hs
          simp [hab] at this
        · have:=hR.nodup
          rw [List.map_append,List.nodup_append] at this
          exact this.2.1
        · obtain ⟨h,hh,rfl⟩:=List.mem_map.1 ha
          obtain ⟨x,hx,rfl⟩:=List.mem_map.1 hb
          obtain ⟨K,b,g1,g2⟩:=hall h hh
          exact (hH.apt _ _ _ _ g2 g1 x hx).symm
end
end
theorem Sp.table {P:Program} {f:FuncId} {args:Array Value} {x:Nat × Blk} {F:HL} {Q:Value -> HL -> Prop} (hx:x ∈ F) (h:∀ F0,Sp P f args [x] F0 λ u H'=>∃ Hp,Q u Hp /\ H'=[x]++Hp):Sp P f args [] F Q:=by
  obtain ⟨l1,l2,rfl⟩:=List.append_of_mem hx
  have hp:∀ H:HL,([x]++H++(l1++l2)).Perm (H++(l1++x :: l2)):=λ H=>by
    refine List.Perm.trans ?_ (List.Perm.append_left H List.perm_middle.symm)
    show (x :: (H++(l1++l2))).Perm (H++x :: (l1++l2))
    exact List.perm_middle.symm
  intro w hR
  have hR1:Rel ([x]++(l1++l2)) w:=hR.perm (by have:=hp [];simpa using this)
  refine (h (l1++l2) w hR1).mono ?_
  rintro e w' ⟨v,H',he,⟨Hp,hq,rfl⟩,hR',hb⟩
  exact ⟨v,Hp,he,hq,hR'.perm (hp Hp).symm,hb⟩
noncomputable section
def iv (x:Int):Value:=.int .i64 x
def cefV:List Value:=[iv 0,iv 0,iv 0,iv 1,iv 0,iv 1,iv 1,iv 0,iv 1,iv 1,iv 2,iv 0,iv 0,iv 1,iv 0,iv 1,iv 0,iv 1,iv 2,iv 1,iv 2,iv 1,iv 2,iv 1,iv 2,iv 1,iv 1,iv 1,iv 2,iv 1,iv 2,iv 1,iv 2,iv 1,iv 1,iv 1,iv 0,iv 0,iv 1,iv 0,iv 2,iv 0,iv 0,iv 0]
def tabsE:List PB:=[(0,cefV,293)]
def src1:String:="on tick { n = n + 1; if n >= 3 { effect 1, n; n = 0; } }"
def src2:String:="on act { vx[self] = vx[self] + 100 * other; effect 2, self; } on hit { a[self] = a[self] + 1; effect 3, other; }"
def src3:String:="on hit { if hit[other] == self + 1 && a[self] < a[other] { vx[self] = -vx[self]; b[self] = tick; } else { stop; } effect 4, a[self]; }"
def src4:String:="on tick { i = 0; while i < 4 { b[i] = b[i] + still[i]; i = i + 1; } s = s + x[0] / 100; effect 5, s; } on act { s = 0; }"
def cod1:List Value:=[iv 2,iv 0,iv 1,iv 1,iv 9,iv 0,iv 3,iv 0,iv 1,iv 3,iv 2,iv 0,iv 15,iv 0,iv 19,iv 14,iv 1,iv 1,iv 2,iv 0,iv 20,iv 0,iv 1,iv 0,iv 3,iv 0,iv 18,iv 14,iv 21,iv 0]
def cod2:List Value:=[iv 6,iv 0,iv 6,iv 0,iv 4,iv 2,iv 1,iv 100,iv 7,iv 0,iv 11,iv 0,iv 9,iv 0,iv 5,iv 2,iv 1,iv 2,iv 6,iv 0,iv 20,iv 0,iv 21,iv 0,iv 6,iv 0,iv 6,iv 0,iv 4,iv 4,iv 1,iv 1,iv 9,iv 0,iv 5,iv 4,iv 1,iv 3,iv 7,iv 0,iv 20,iv 0,iv 21,iv 0]
def cod3:List Value:=[iv 7,iv 0,iv 4,iv 6,iv 6,iv 0,iv 1,iv 1,iv 9,iv 0,iv 16,iv 0,iv 19,iv 13,iv 6,iv 0,iv 4,iv 4,iv 7,iv 0,iv 4,iv 4,iv 14,iv 0,iv 18,iv 14,iv 1,iv 0,iv 19,iv 24,iv 6,iv 0,iv 6,iv 0,iv 4,iv 2,iv 13,iv 0,iv 5,iv 2,iv 6,iv 0,iv 8,iv 0,iv 5,iv 5,iv 18,iv 25,iv 21,iv 0,iv 1,iv 4,iv 6,iv 0,iv 4,iv 4,iv 20,iv 0,iv 21,iv 0]
def cod4:List Value:=[iv 1,iv 0,iv 3,iv 0,iv 21,iv 0,iv 1,iv 0,iv 3,iv 1,iv 2,iv 1,iv 1,iv 4,iv 14,iv 0,iv 19,iv 21,iv 2,iv 1,iv 2,iv 1,iv 4,iv 5,iv 2,iv 1,iv 4,iv 7,iv 9,iv 0,iv 5,iv 5,iv 2,iv 1,iv 1,iv 1,iv 9,iv 0,iv 3,iv 1,iv 18,iv 5,iv 2,iv 0,iv 1,iv 0,iv 4,iv 0,iv 1,iv 100,iv 12,iv 0,iv 9,iv 0,iv 3,iv 0,iv 1,iv 5,iv 2,iv 0,iv 20,iv 0,iv 21,iv 0]
def resP (h len:Nat) (a b c:Int):Value:=.tuple ⟨[.agg ⟨[.slice (some ⟨h,0,none⟩) len unk,iv a,iv b,iv c]⟩,iv 0]⟩
def res0:Value:=.tuple ⟨[.agg ⟨[.slice none 0 0,iv (-1),iv (-1),iv (-1)]⟩,iv 0]⟩
def progQ (src:String) (picks:List PB) (v:Value):Bool:=resQ tabsE picks v (runK Tryz.prog 3 100000 (.fn 78 [.string src.toUTF8] (tabH tabsE) 3))
theorem mixed:Tryz.prog.follows .mixedOrders=true:=by kernel_rfl
theorem prog_sp {src:String} {h:Nat} {cod:List Value} {ty:TypeId} {v:Value} {F:HL} (hh:h ≠ 0) (hq:progQ src [(h,cod,ty)] v=true) :
    Sp Tryz.prog 78 #[.string src.toUTF8] (tabsE.map tabB) F λ v' H'=>∃ ν rest,v'=outV ν v /\ H'=tabsE.map tabB++[pickB ν rest (h,cod,ty)] :=
  closed_sp (G:=3) (tabs:=tabsE) (picks:=[(h,cod,ty)]) mixed rfl rfl rfl (by simp [tabsE,hh.symm]) hq
theorem prog_q0:progQ "" [] res0=true:=by kernel_rfl
end
theorem prog_q1:progQ src1 [(1095,cod1,206)] (resP 1095 15 (-1) 0 (-1))=true:=by kernel_rfl
theorem prog_q2:progQ src2 [(1804,cod2,206)] (resP 1804 22 0 (-1) 12)=true:=by kernel_rfl
theorem prog_q3:progQ src3 [(2348,cod3,206)] (resP 2348 30 (-1) (-1) 0)=true:=by kernel_rfl
theorem prog_q4:progQ src4 [(2279,cod4,206)] (resP 2279 32 0 3 (-1))=true:=by kernel_rfl
noncomputable section
def srcBi:Nat -> ByteArray
  | 0=>"".toUTF8
  | 1=>src1.toUTF8
  | 2=>src2.toUTF8
  | 3=>src3.toUTF8
  | _=>src4.toUTF8
def codB:Nat -> List Value
  | 0=>[]
  | 1=>cod1
  | 2=>cod2
  | 3=>cod3
  | _=>cod4
def lenB:Nat -> Nat
  | 0=>0
  | 1=>15
  | 2=>22
  | 3=>30
  | _=>32
def entB:Nat -> List Value
  | 0=>[iv (-1),iv (-1),iv (-1)]
  | 1=>[iv (-1),iv 0,iv (-1)]
  | 2=>[iv 0,iv (-1),iv 12]
  | 3=>[iv (-1),iv (-1),iv 0]
  | _=>[iv 0,iv 3,iv (-1)]
inductive PrgV (j:Nat):Value -> HL -> Prop
  | nil:j=0 -> PrgV j (.slice none 0 0) []
  | some (b cap:Nat) (rest:List Value):PrgV j (.slice (some ⟨b,0,none⟩) (lenB j) cap) [(b,.lit (codB j++rest) 206 (0,0))]
theorem outV_resP (ν:Nu) (h len:Nat) (a b c:Int):outV ν (resP h len a b c)=.tuple ⟨[.agg ⟨[.slice (some ⟨nub ν h,0,none⟩) len (kap ν h unk),iv a,iv b,iv c]⟩,iv 0]⟩:=by
  simp only [resP,outV,outA,outL,iv]
theorem prog_any {j:Nat} (hj:j < 5) {F:HL}:Sp Tryz.prog 78 #[.string (srcBi j)] (tabsE.map tabB) F λ u H'=>∃ s Hp,PrgV j s Hp /\ u=.tuple ⟨[.agg ⟨s :: entB j⟩,iv 0]⟩ /\ H'=tabsE.map tabB++Hp:=by
  match j,hj with
  | 0,_ =>
    refine (closed_sp (G:=3) (tabs:=tabsE) (picks:=[]) mixed rfl rfl rfl (by simp [tabsE]) prog_q0).mono ?_
    rintro u H' ⟨ν,rest,rfl,rfl⟩
    exact ⟨_,[],.nil rfl,rfl,rfl⟩
  | 1,_ =>
    refine (prog_sp (by decide) prog_q1).mono ?_
    rintro u H' ⟨ν,rest,rfl,rfl⟩
    exact ⟨_,_,.some _ _ _,outV_resP ..,rfl⟩
  | 2,_ =>
    refine (prog_sp (by decide) prog_q2).mono ?_
    rintro u H' ⟨ν,rest,rfl,rfl⟩
    exact ⟨_,_,.some _ _ _,outV_resP ..,rfl⟩
  | 3,_ =>
    refine (prog_sp (by decide) prog_q3).mono ?_
    rintro u H' ⟨ν,rest,rfl,rfl⟩
    exact ⟨_,_,.some _ _ _,outV_resP ..,rfl⟩
  | 4,_ =>
    refine (prog_sp (by decide) prog_q4).mono ?_
    rintro u H' ⟨ν,rest,rfl,rfl⟩
    exact ⟨_,_,.some _ _ _,outV_resP ..,rfl⟩
theorem prog_in {j:Nat} (hj:j < 5) {F:HL} (hF:(0,Blk.lit cefV 293 (0,0)) ∈ F):Sp Tryz.prog 78 #[.string (srcBi j)] [] F λ u H'=>∃ s,PrgV j s H' /\ u=.tuple ⟨[.agg ⟨s :: entB j⟩,iv 0]⟩ :=
  Sp.table hF λ F0=>(prog_any hj).mono λ u H' ⟨s,Hp,h1,h2,h3⟩=>⟨Hp,⟨s,h1,h2⟩,h3⟩
end
def entI (j k:Nat):Int:=match (entB j)[k]? with | some (.int _ x)=>x | _=>0
def insOf:List Value -> List Ins
 | .int _ a :: .int _ b :: r=>⟨a,b⟩ :: insOf r
 | _=>[]
def insB (j:Nat):List Ins:=insOf (codB j)
theorem insB_len:∀ {j:Nat},j < 5 -> (insB j).length=lenB j
 | 0,_=>by kernel_rfl
 | 1,_=>by kernel_rfl
 | 2,_=>by kernel_rfl
 | 3,_=>by kernel_rfl
 | 4,_=>by kernel_rfl
 | j+5,h=>absurd h (by omega)
theorem insB_cells:∀ {j:Nat},j < 5 -> codB j=cellsE insE (insB j)
 | 0,_=>by kernel_rfl
 | 1,_=>by kernel_rfl
 | 2,_=>by kernel_rfl
 | 3,_=>by kernel_rfl
 | 4,_=>by kernel_rfl
 | j+5,h=>absurd h (by omega)
theorem lenB_le:∀ {j:Nat},j < 5 -> lenB j <= 32
 | 0,_=>by decide
 | 1,_=>by decide
 | 2,_=>by decide
 | 3,_=>by decide
 | 4,_=>by decide
 | j+5,h=>absurd h (by omega)
theorem entB_eq:∀ {j:Nat},j < 5 -> entB j=[vI (entI j 0),vI (entI j 1),vI (entI j 2)]
 | 0,_=>by kernel_rfl
 | 1,_=>by kernel_rfl
 | 2,_=>by kernel_rfl
 | 3,_=>by kernel_rfl
 | 4,_=>by kernel_rfl
 | j+5,h=>absurd h (by omega)
abbrev TabIn (F:HL):Prop:=(0,Blk.lit cefV 293 (0,0)) ∈ F
def CodT (j:Nat) (A:Option Addr) (T:HL):Prop:=∀ F,(∀ x ∈ T,x ∈ F) -> SrcIn Tryz.prog insE F A (lenB j) (insB j)
theorem prog_w {j:Nat} (hj:j < 5) (F:HL) (hE:TabIn F):Sp Tryz.prog 78 #[.string (srcBi j)] (ap [] []) F (λ u H'=>∃ x:Option Addr × Nat × HL,H'=ap [] [x.2.2] /\ (u=.tuple #[.agg #[.slice x.1 (lenB j) x.2.1,vI (entI j 0),vI (entI j 1),vI (entI j 2)],vI 0] /\ CodT j x.1 x.2.2)):=by
 refine (prog_in hj hE).mono ?_
 rintro u H' ⟨s,hp,rfl⟩
 rw [entB_eq hj]
 cases hp with
 | nil h0 =>
  subst h0
  exact ⟨(none,0,[]),(ap_one _).symm,rfl,λ F hF=>SrcIn.none⟩
 | some b cap rest =>
  refine ⟨(some ⟨b,0,none⟩,cap,[(b,.lit (codB j++rest) 206 (0,0))]),(ap_one _).symm,rfl,λ F hF=>?_⟩
  have h:=SrcIn.lit insEOk (xs:=insB j) (rest:=rest) (ty:=206) (fz:=(0,0)) (F:=F) (q:=b) (by rw [<- insB_cells hj];exact hF _ (List.mem_singleton.2 rfl))
  rw [insB_len hj] at h
  exact h
inductive Book1 (j bp:Nat):HL -> Prop
 | mk (q:Nat) (A:Option Addr) (c:Nat) (T:HL) (h:CodT j A T):Book1 j bp (ap [(bp,.lit [vS q 0 1 1] 162 (0,0)),(q,.lit [vI 0,.slice A (lenB j) c,vI (entI j 0),vI (entI j 1),vI (entI j 2)] 159 (0,0))] [T])
def srcL:List Value:=[.string ⟨#[]⟩,.string ⟨#[111,110,32,116,105,99,107,32,123,32,110,32,61,32,110,32,43,32,49,59,32,105,102,32,110,32,62,61,32,51,32,123,32,101,102,102,101,99,116,32,49,44,32,110,59,32,110,32,61,32,48,59,32,125,32,125]⟩,.string ⟨#[111,110,32,97,99,116,32,123,32,118,120,91,115,101,108,102,93,32,61,32,118,120,91,115,101,108,102,93,32,43,32,49,48,48,32,42,32,111,116,104,101,114,59,32,101,102,102,101,99,116,32,50,44,32,115,101,108,102,59,32,125,32,111,110,32,104,105,116,32,123,32,97,91,115,101,108,102,93,32,61,32,97,91,115,101,108,102,93,32,43,32,49,59,32,101,102,102,101,99,116,32,51,44,32,111,116,104,101,114,59,32,125]⟩,.string ⟨#[111,110,32,104,105,116,32,123,32,105,102,32,104,105,116,91,111,116,104,101,114,93,32,61,61,32,115,101,108,102,32,43,32,49,32,38,38,32,97,91,115,101,108,102,93,32,60,32,97,91,111,116,104,101,114,93,32,123,32,118,120,91,115,101,108,102,93,32,61,32,45,118,120,91,115,101,108,102,93,59,32,98,91,115,101,108,102,93,32,61,32,116,105,99,107,59,32,125,32,101,108,115,101,32,123,32,115,116,111,112,59,32,125,32,101,102,102,101,99,116,32,52,44,32,97,91,115,101,108,102,93,59,32,125]⟩,.string ⟨#[111,110,32,116,105,99,107,32,123,32,105,32,61,32,48,59,32,119,104,105,108,101,32,105,32,60,32,52,32,123,32,98,91,105,93,32,61,32,98,91,105,93,32,43,32,115,116,105,108,108,91,105,93,59,32,105,32,61,32,105,32,43,32,49,59,32,125,32,115,32,61,32,115,32,43,32,120,91,48,93,32,47,32,49,48,48,59,32,101,102,102,101,99,116,32,53,44,32,115,59,32,125,32,111,110,32,97,99,116,32,123,32,115,32,61,32,48,59,32,125]⟩]
def srcRow:Nat -> Nat -> Value:=λ i k=>match k with | 0=>.string (srcBi i) | _=>default
theorem sources_run (F:HL):Sp Tryz.prog 79 #[] [] F (λ u H'=>∃ q:Nat,H'=ap [(q,.lit srcL 9 (0,0))] [] /\ u=vS q 0 5 5):=by
 refine Sp.run Tryz.func79 rfl mn (A:=[]) (Ts:=[]) rfl λ w0=>?_
 refine RN.go 11 [] λ n1=>RN.ret [] [0] [] (v:=vS (n1+0) 0 5 5) (H':=(ap [((n1+0),.lit srcL 9 (0,0))] [])) ?_
 exact ⟨_,rfl,rfl⟩
theorem sources_ap (F:HL):Sp Tryz.prog 79 #[] (ap [] []) F (λ u H'=>∃ q:Nat,H'=ap [(q,.lit srcL 9 (0,0))] [] /\ u=vS q 0 5 5):=sources_run F
theorem source_any (n:Int) (F:HL) (hn:i64r n):Sp Tryz.prog 39 #[vI n] [] F (λ u H'=>u=.string (srcBi (around n 5).toNat) /\ H'=[]):=by
 refine Sp.run Tryz.func39 rfl mn (A:=[]) (Ts:=[]) rfl λ w0=>?_
 refine RN.go 7 [] λ _=>RN.ct (Hp:=[]) (Tp:=[]) [] [] (sources_ap _) ?_
 rintro _ q1 rfl
 refine RN.go 1 [] λ _=>RN.cp (around_any n 5 (by decide) _) ?_
 have hA2:=around_bd (n:=n) hn 5 (by decide)
 refine RN.dn 0 (.rows 1 5 srcRow 9 (0,0))<|RN.goP 5 [.ix ((around n 5).toNat),.row 0 ((around n 5).toNat) 0] [(0+((around n 5).toNat) * 1)=((around n 5).toNat) * 1+0 /\ ((around n 5).toNat) < 5,around n 5=(((around n 5).toNat:Nat):Int) /\ (around n 5).toNat < 5] λ _=>?_
 exact RN.ret [] [] [] ⟨rfl,rfl⟩
theorem pnew_run (j:Nat) (F:HL) (hj:j < 5) (hE:TabIn F):Sp Tryz.prog 38 #[.string (srcBi j)] [] F (λ u H'=>∃ x:Nat × HL,H'=ap [] [x.2] /\ (u=.tuple #[vP x.1 0,vI 0] /\ Book1 j x.1 x.2)):=by
 refine Sp.run Tryz.func38 rfl mn (A:=[]) (Ts:=[]) rfl λ w0=>?_
 refine RN.go 9 [] λ _=>RN.ct (Hp:=[]) (Tp:=[]) [] [] (prog_w hj _ (ro_ap hE)) ?_
 rintro _ ⟨A1,c2,T3⟩ ⟨rfl,hC4⟩
 dsimp only at hC4
 refine RN.go 29 (ow 0 8) λ n5=>RN.ret [] [0,1] [0] (v:=.tuple #[vP (n5+2) 0,vI 0]) (H':=(ap [((n5+2),.lit [vS (n5+1) 0 1 1] 162 (0,0)),((n5+1),.lit [vI 0,.slice A1 (lenB j) c2,vI (entI j 0),vI (entI j 1),vI (entI j 2)] 159 (0,0))] [T3])) ?_
 exact ⟨((n5+2),ap [((n5+2),.lit [vS (n5+1) 0 1 1] 162 (0,0)),((n5+1),.lit [vI 0,.slice A1 (lenB j) c2,vI (entI j 0),vI (entI j 1),vI (entI j 2)] 159 (0,0))] [T3]),by simp [ap],rfl,.mk _ _ _ _ hC4⟩
theorem pnew_any (j:Nat) (F:HL) (hj:j < 5) (hE:TabIn F):Sp Tryz.prog 38 #[.string (srcBi j)] (ap [] []) F (λ u H'=>∃ x:Nat × HL,H'=ap [] [x.2] /\ (u=.tuple #[vP x.1 0,vI 0] /\ Book1 j x.1 x.2)):=pnew_run j F hj hE
open Go.Shelf
def SpD (P:Program) (f:FuncId) (args:Array Value) (H F:HL) (R:Value -> HL -> Prop):Prop :=
  ∀ w,Rel (H++F) w -> CallsDIn (Wr none) 0 P f args .returning w λ e u' w'=>u'=.returning /\ ∃ v H',e=.returned v /\ R v H' /\ Rel (H'++F) w' /\ Below 0 w w'
theorem SpD.mono {P:Program} {f:FuncId} {args:Array Value} {H F:HL} {R R':Value -> HL -> Prop} (h:SpD P f args H F R) (hr:∀ v H',R v H' -> R' v H'):SpD P f args H F R' :=
  λ w hR=>(h w hR).mono λ e u' w' ⟨h0,v,H',h1,h2,h3,h4⟩=>⟨h0,v,H',h1,hr _ _ h2,h3,h4⟩
section
variable {r:Option Nat} {P:Program} {N:Nat} {D:List Deferred} {F:HL} {w0:World} {R:HL} {s:Cfg} {Q:Exit -> Act -> World -> Prop}
def dfR (N:Nat) (s:Cfg):Option (FuncId × Array Value × Array Value):=match opAt s with
  | some o=>match o.guard,o.op,(putL N o.dst undef s.L).isSome with
    | none,.defer c,true=>match c.callee with
      | .value f=>match inL s.L f && c.args.toList.all (inL s.L) with
        | true=>match rho s.L f with
          | .func (.func g) first cap=>some (g,first++c.args.map (rho s.L),cap)
          | _=>none
        | false=>none
      | _=>none
    | _,_,_=>none
  | none=>none
abbrev dfD (g:FuncId) (args cap:Array Value):Deferred:={ target:=.fn (.func g) cap,args:=args }
theorem map_rho {L:FL} {a:Act} (hF:Fm N D L a):∀ (l:List Operand),l.all (inL L)=true -> l.map a.eval=l.map (rho L)
  | [],_=>rfl
  | x :: l,h=>by
    rw [List.all_cons,Bool.and_eq_true] at h
    rw [List.map_cons,List.map_cons,hF.eval h.1,map_rho hF l h.2]
theorem RN.df {g:FuncId} {args cap:Array Value} (hk:RN none P N (dfD g args cap :: D) F w0 R (putC N undef s) Q) (h:dfR N s=some (g,args,cap):=by kernel_rfl):RN none P N D F w0 R s Q:=by
  refine ⟨λ hR a w hF hRel hB=>?_⟩
  obtain ⟨cc,kk,L,A,Ts⟩:=s
  unfold dfR at h
  split at h
  case h_2=>cases h
  rename_i o q0
  split at h
  case h_2=>cases h
  rename_i c q1 q2 q3
  split at h
  case h_2=>cases h
  rename_i f q4
  split at h
  case h_2=>cases h
  rename_i q5
  split at h
  case h_2=>cases h
  rename_i g' first cap' q6
  simp only [Option.some.injEq,Prod.mk.injEq] at h
  obtain ⟨e1,e2,e3⟩:=h
  subst e1;subst e2;subst e3
  unfold opAt at q0
  cases cc with
  | code c=>cases q0
  | ex c=>cases q0
  | drw _ _=>cases q0
  | ops ops j =>
    simp only at q0 q3 q5 q6 hF hRel
    have hdrop:ops.toList.drop j=o :: ops.toList.drop (j+1):=by
      have hlt:j < ops.toList.length:=(List.getElem?_eq_some_iff.1 q0).1
      rw [List.drop_eq_getElem_cons hlt,(List.getElem?_eq_some_iff.1 q0).2]
    show wpListIn _ _ _ _ _ _ _ _
    rw [hdrop,wpListIn,if_pos (by simp [Region.wanted,q1])]
    refine ⟨λ _ _=>trivial,?_⟩
    rw [Bool.and_eq_true] at q5
    obtain ⟨L',hl⟩:=putL_some q3 undef
    have hpc:putC N undef ⟨.ops ops j,kk,L,A,Ts⟩=⟨.ops ops (j+1),kk,L',A,Ts⟩:=by
      unfold putC
      simp only [q0,hl]
    have hh:=hk.h hR
    rw [hpc] at hh
    have hargs:c.args.map a.eval=c.args.map (rho L):=by
      apply Array.ext'
      rw [Array.toList_map,Array.toList_map]
      exact map_rho hF _ q5.2
    have e1:a.eval f=.func (.func g') first cap':=(hF.eval q5.1).trans q6
    have hex:(o.semAt (Wr none).round a.eval).run P w=.ok (.defer (dfD g' (first++c.args.map (rho L)) cap')) w:=by
      show (Oper.semAt none a.eval o).run P w=_
      rw [Oper.semAt_none]
      simp only [execOp,q2,resolve,q4,e1,Deferred.ofValue,Sem.run_bind,hargs]
      rfl
    rw [hex,Oper.uponIn_defer]
    have hF':Fm N (dfD g' (first++c.args.map (rho L)) cap' :: D) L { a with defers:=dfD g' (first++c.args.map (rho L)) cap' :: a.defers }:=⟨hF.size,by rw [<- hF.defs],hF.has⟩
    exact hh _ w (hF'.put hl) hRel hB
structure LV (P:Program) (N:Nat) (D:List Deferred) (F:HL) (w0:World) (R:HL) (fn:Func) (R':Value -> HL -> Prop) (s:Cfg):Prop where
  h:(∀ y ∈ R,y ∈ F) -> ∀ a w,Fm N D s.L a -> Rel (ap s.A s.Ts++F) w -> Below 0 w0 w -> LeavesInM (Wr none) 0 P fn a.tmps (SpR F w0 R') a.defers .returning w
theorem RN.lv {fn:Func} {R':Value -> HL -> Prop} (hk:LV P N D F w0 R fn R' s) (hc:isDone s=true:=by kernel_rfl):RN none P N D F w0 R s (bodyPostM (Wr none) 0 P fn (SpR F w0 R')):=by
  refine ⟨λ hR a w hF hRel hB=>?_⟩
  have key:=hk.h hR a w hF hRel hB
  exact isDone_wf hc key key
def aftD (ip jp:List Nat) (Hq:HL) (Tq:List HL) (s:Cfg):Cfg:=setH (λ A=>Hq++(oth ip A.length).filterMap (A[·]?)) (λ Ts=>Tq++(oth jp Ts.length).filterMap (Ts[·]?)) s
theorem LV.df {τ:Type} {fn:Func} {R':Value -> HL -> Prop} {g:FuncId} {args cap:Array Value} (eg:∀ args w,(callFunc g args).run P w=.ok (.enter g args) w) (ip jp:List Nat) {Hp:HL} {Tp:List HL} {Hq:τ -> HL} {Tq:τ -> List HL} {Rv:Value -> τ -> Prop}
    (hc:SpD P g (args++cap) (ap Hp Tp) (ap (othA ip s) (othT jp s)++F) (λ v H'=>∃ x,H'=ap (Hq x) (Tq x) /\ Rv v x)) (hk:∀ v x,Rv v x -> LV P N D F w0 R fn R' (aftD ip jp (Hq x) (Tq x) s))
    (hp:permOk ip jp s=true:=by kernel_rfl) (hH:picks ip jp s=(Hp,Tp):=by kernel_rfl):LV P N (dfD g args cap :: D) F w0 R fn R' s:=by
  unfold permOk at hp
  unfold picks at hH
  rw [Bool.and_eq_true] at hp
  simp only [Prod.mk.injEq] at hH
  obtain ⟨e1,e2⟩:=hH
  refine ⟨λ hR a w hF hRel hB=>?_⟩
  have hperm:(ap Hp Tp++ap (othA ip s) (othT jp s)).Perm (ap s.A s.Ts):=by
    have h1:=ap_perm s.A s.Ts ip (oth ip s.A.length) jp (oth jp s.Ts.length) hp.1 hp.2
    rw [e1,e2] at h1
    exact h1
  have hR1:Rel (ap Hp Tp++(ap (othA ip s) (othT jp s)++F)) w:=by rw [<- List.append_assoc];exact hRel.perm (hperm.append_right F)
  rw [hF.defs]
  refine ⟨by simp,.inr ⟨(λ h=>by cases h),.func g,cap,g,args++cap,rfl,?_,λ _ _=>trivial,?_⟩⟩
  · show (callFunc g (args++cap)).run P w=_
    exact eg _ _
  · refine (hc w hR1).mono ?_
    rintro e u' w' ⟨rfl,v,H',rfl,⟨x,rfl,hv⟩,hR2,hB2⟩
    have:=(hk v x hv).h hR { a with defers:=D } w' ⟨hF.size,rfl,hF.has⟩ ?_ (hB.trans hB2)
    · exact this
    · unfold aftD
      rw [setH_eq.1,setH_eq.2.1]
      refine hR2.perm ?_
      exact (ap_swap _ _ _ _ _).symm
theorem LV.retO {fn:Func} {R':Value -> HL -> Prop} (hints:List Hint) (Ob:List Prop) (hob:AllP Ob) (ip jp:List Nat) {v:Value} {H':HL} (hv:R' v H')
    (h:∀ n0,retV P n0 fn.results.toList R hints s=some (v,resX (retV P n0 fn.results.toList R hints s),resX (retV P n0 fn.results.toList R hints s),Ob):=by intro n0;kernel_rfl)
    (hp:permOk ip jp s=true:=by kernel_rfl) (hH:ap (picks ip jp s).1 (picks ip jp s).2=H':=by kernel_rfl):LV P N [] F w0 R fn R' s:=by
  unfold permOk at hp
  unfold picks at hH
  refine ⟨λ hR a w hF hRel hB=>?_⟩
  rw [Bool.and_eq_true] at hp
  have h':=h w.heap.size
  unfold retV resE at h'
  split at h'
  case h_2=>cases h'
  rename_i vs ss hs
  split at h'
  case h_2=>cases h'
  simp only [resX,Option.some.injEq,Prod.mk.injEq] at h'
  obtain ⟨e1,-,e3,e4⟩:=h'
  have hrun:=resL_run (P:=P) hF hRel fn.results.toList _ _ _ hs rfl rfl hR (λ e=>by cases e) (pairs_eq rfl e3) (by rw [e4];exact AllP.mem hob)
  subst e1
  rw [hF.defs]
  exact ⟨_,results_run (by simp) hrun,_,H',rfl,hv,hRel.takeT ip _ jp _ hp.1 hp.2 hH,hB⟩
theorem LV.ret {fn:Func} {R':Value -> HL -> Prop} (hints:List Hint) (ip jp:List Nat) {v:Value} {H':HL} (hv:R' v H')
    (h:∀ n0,retV P n0 fn.results.toList R hints s=some (v,resX (retV P n0 fn.results.toList R hints s),resX (retV P n0 fn.results.toList R hints s),[]):=by intro n0;kernel_rfl)
    (hp:permOk ip jp s=true:=by kernel_rfl) (hH:ap (picks ip jp s).1 (picks ip jp s).2=H':=by kernel_rfl):LV P N [] F w0 R fn R' s:=LV.retO hints [] trivial ip jp hv h hp hH
end
end Go.Proofs.YtcfajdgeejeieaaGreatDoor
