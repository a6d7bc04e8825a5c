import Derived.Test.YthoijjeddhfcnaaGreatW35
import Derived.Test.YthoijjeddhfcnaaGreatW37
import Derived.Test.YthoijjeddhfcnaaGreatProg
import Derived.Test.YthoijjeddhfcnaaGreatW26
import Derived.Test.YthoijjeddhfcnaaGreatW27
import Derived.Test.YthoijjeddhfcnaaGreatW21
set_option maxHeartbeats 4000000
set_option maxRecDepth 100000
set_option linter.unusedSimpArgs false
set_option linter.unusedVariables false
namespace Go.Proofs.YthoijjeddhfcnaaGreat
open Go.RowKit
noncomputable section
def nub (ν:Nu) (h:Nat):Nat:=match ν h with
  | some (b,_)=>b
  | none=>0
def kap (ν:Nu) (h c:Nat):Nat:=match Nat.blt c unk with
  | true=>c
  | false=>match ν h with
    | some (_,K)=>K - (c - unk)
    | none=>0
mutual
def outV (ν:Nu):Value -> Value
  | .pointer (some a)=>.pointer (some ⟨nub ν a.block,a.off,none⟩)
  | .slice (some a) n c=>.slice (some ⟨nub ν a.block,a.off,none⟩) n (kap ν a.block c)
  | .map (some h)=>.map (some (nub ν h))
  | .iface t v=>.iface t (outV ν v)
  | .agg c=>.agg (outA ν c)
  | .tuple c=>.tuple (outA ν c)
  | v=>v
def outA (ν:Nu):Array Value -> Array Value
  | ⟨l⟩=>⟨outL ν l⟩
def outL (ν:Nu):List Value -> List Value
  | []=>[]
  | v :: l=>outV ν v :: outL ν l
end
mutual
def okVi:Value -> Bool
  | .iface _ v=>okVi v
  | .func f a c=>pl (.func f a c)
  | .agg c=>okA c
  | .tuple c=>okA c
  | .chan _=>false
  | _=>true
def okA:Array Value -> Bool
  | ⟨l⟩=>okL l
def okL:List Value -> Bool
  | []=>true
  | v :: l=>match okVi v with
    | true=>okL l
    | false=>false
end
theorem outL_pt {ν:Nu}:∀ {l l':List Value},l.length=l'.length -> (∀ (i:Nat) (v v':Value),l[i]?=some v -> l'[i]?=some v' -> okVi v=true -> v'=outV ν v) -> okL l=true -> l'=outL ν l
  | [],[],_,_,_=>rfl
  | [],_ :: _,e,_,_=>by simp at e
  | _ :: _,[],e,_,_=>by simp at e
  | v :: l,v' :: l',e,h,ho=>by
    rw [okL] at ho
    cases hv:okVi v with
    | false=>rw [hv] at ho;cases ho
    | true =>
      rw [hv] at ho
      have a1:=h 0 v v' rfl rfl hv
      have a2:=outL_pt (l:=l) (l':=l') (by simpa using e) (λ i a b h1 h2=>h (i+1) a b (by simpa using h1) (by simpa using h2)) ho
      rw [outL,<- a1,<- a2]
theorem outV_eq {ν:Nu} {v v':Value} (h:VRi ν v v'):okVi v=true -> v'=outV ν v:=by
  induction h with
  | atom v h =>
    intro _
    cases v with
    | pointer a=>cases a with
      | none=>rfl
      | some a=>simp [atomV] at h
    | slice a n c=>cases a with
      | none=>rfl
      | some a=>simp [atomV] at h
    | map r=>cases r with
      | none=>rfl
      | some r=>simp [atomV] at h
    | iface t v=>simp [atomV] at h
    | agg c=>simp [atomV] at h
    | tuple c=>simp [atomV] at h
    | _=>rfl
  | ptr o h=>intro _;simp [outV,nub,h]
  | @slice hd b K c c' o n h hc =>
    intro _
    simp only [outV,nub,kap,h]
    congr 1
    cases hb:Nat.blt c unk with
    | true=>exact hc.1 (Eq.mp Nat.blt_eq hb)
    | false =>
      have h2:=hc.2 (le_of_blt_false hb)
      simp only
      omega
  | map h=>intro _;simp [outV,nub,h]
  | func hf e1 h1 e2 h2 _ _ =>
    intro ho
    have:=VRi.plain_eq (VRi.func hf e1 h1 e2 h2) (by simpa only [okVi] using ho)
    rw [this];rfl
  | iface t _ ih=>intro ho;rw [outV,<- ih (by simpa only [okVi] using ho)]
  | @agg c c' e _ ih =>
    intro ho
    obtain ⟨l⟩:=c
    obtain ⟨l'⟩:=c'
    simp only [List.getElem?_toArray] at ih
    rw [outV,outA,outL_pt (l:=l) (l':=l') e ih (by simpa only [okVi,okA] using ho)]
  | @tuple c c' e _ ih =>
    intro ho
    obtain ⟨l⟩:=c
    obtain ⟨l'⟩:=c'
    simp only [List.getElem?_toArray] at ih
    rw [outV,outA,outL_pt (l:=l) (l':=l') e ih (by simpa only [okVi,okA] using ho)]
theorem outL_eq {ν:Nu} {l l':List Value} (h:LR ν l l'):okL l=true -> l'=l.map (outV ν):=by
  induction h with
  | nil=>intro _;rfl
  | @cons v v' l l' h _ ih =>
    intro ho
    rw [okL] at ho
    cases hv:okVi v with
    | false=>rw [hv] at ho;cases ho
    | true =>
      rw [hv] at ho
      rw [List.map_cons,outV_eq h hv,ih ho]
abbrev PB:=Nat × List Value × TypeId
def chkB (H:AH) (p:PB):Bool:=match hget H p.1 with
  | some (.cells n t ty _ _)=>match Nat.beq n (lenL p.2.1),Nat.beq ty p.2.2 with
    | true,true=>match veqL (readN t 0 n) p.2.1 with
      | true=>okL p.2.1
      | false=>false
    | _,_=>false
  | _=>false
def chkBs (H:AH):List PB -> Bool
  | []=>true
  | p :: l=>match chkB H p with
    | true=>chkBs H l
    | false=>false
def restBi (ν:Nu) (w:World) (p:PB):List Value:=match w.heap[nub ν p.1]? with
  | some (.cells c _ _)=>c.toList.drop p.2.1.length
  | _=>[]
def pickB (ν:Nu) (rest:PB -> List Value) (p:PB):Nat × Blk:=(nub ν p.1,.lit (p.2.1.map (outV ν)++rest p) p.2.2 (0,0))
theorem veqL_eq (l l':List Value) (h:veqL l l'=true):l=l':=by
  induction l generalizing l' with
  | nil=>cases l' with
    | nil=>rfl
    | cons v l'=>simp [veqL] at h
  | cons v l ih=>cases l' with
    | nil=>simp [veqL] at h
    | cons v' l' =>
      rw [veqL] at h
      cases hv:veq v v' with
      | false=>rw [hv] at h;cases h
      | true=>rw [hv] at h;rw [veq_eq _ _ hv,ih _ h]
theorem pick_out {ν:Nu} {H:AH} {F:HL} {w:World} (hH:HR ν H F w) {p:PB} (hc:chkB H p=true) :
    (∃ K,ν p.1=some (nub ν p.1,K)) /\ (∃ b,hget H p.1=some b) /\ w.heap[nub ν p.1]?=some (pickB ν (restBi ν w) p).2.den:=by
  unfold chkB at hc
  split at hc
  case h_2=>cases hc
  rename_i n t ty ww ro hb
  split at hc
  case h_2=>cases hc
  rename_i e1 e2
  have e1:=Nat.eq_of_beq_eq_true e1
  have e2:=Nat.eq_of_beq_eq_true e2
  split at hc
  case h_2=>cases hc
  rename_i e3
  have e3:=veqL_eq _ _ e3
  obtain ⟨r,K,o,h1,h2,h3⟩:=hH.blk _ _ hb
  have hn:nub ν p.1=r:=by simp [nub,h1]
  have hcc:=hH.cells hb h1
  obtain ⟨c,ty',fz,g1,g2⟩:=hcc
  refine ⟨⟨K,by rw [hn];exact h1⟩,⟨_,hb⟩,?_⟩
  rw [hn,g1]
  have hr:=readN_rel g2.le g2.get n 0 (by omega)
  rw [e3] at hr
  have hl:=outL_eq hr hc
  rw [lenL_eq] at e1
  simp only [pickB,Blk.den,restBi,hn,g1,g2.ty,g2.fz,<- e2]
  congr 2
  apply Array.ext'
  simp only
  rw [<- hl,List.drop_zero,<- e1,List.take_append_drop]
def tabH:List PB -> AH
  | []=>.lf
  | p :: l=>hset (tabH l) p.1 (some (.cells (lenL p.2.1) (Tr.ofL undef p.2.1 0 .lf) p.2.2 1 true))
def tabN (tabs:List PB) (G:Nat):Nu:=λ h=>if h < G then some (h,match tabs.find? (λ p=>p.1 == h) with | some p=>p.2.1.length | none=>0) else none
def tabB (p:PB):Nat × Blk:=(p.1,.lit p.2.1 p.2.2 (0,0))
def tabOk (G:Nat):List PB -> Bool
  | []=>true
  | p :: l=>match Nat.blt p.1 G,plL p.2.1,l.any (λ q=>q.1 == p.1) with
    | true,true,false=>tabOk G l
    | _,_,_=>false
end
noncomputable section
theorem tab_get:∀ (tabs:List PB) (h:Nat),hget (tabH tabs) h=match tabs.find? (λ p=>p.1 == h) with
    | some p=>some (.cells (lenL p.2.1) (Tr.ofL undef p.2.1 0 .lf) p.2.2 1 true)
    | none=>none
  | [],h=>get_lf _
  | p :: l,h=>by
    rw [tabH,hget_set,tab_get l h]
    by_cases e:p.1=h
    · rw [if_pos e,List.find?_cons_of_pos (by simpa using e)]
    · rw [if_neg e,List.find?_cons_of_neg (by simpa using e)]
theorem tabOk_mem {G:Nat}:∀ {tabs:List PB},tabOk G tabs=true -> ∀ p ∈ tabs,p.1 < G /\ plL p.2.1=true
  | [],_,p,hp=>by simp at hp
  | q :: l,h,p,hp=>by
    rw [tabOk] at h
    split at h
    · rename_i h1 h2 h3
      rcases List.mem_cons.1 hp with rfl | hp
      · exact ⟨Eq.mp Nat.blt_eq h1,h2⟩
      · exact tabOk_mem h p hp
    · cases h
theorem plL_get:∀ {l:List Value},plL l=true -> ∀ {i:Nat} {v:Value},l[i]?=some v -> pl v=true
  | [],_,i,v,h=>by simp at h
  | x :: l,hp,i,v,h=>by
    rw [plL] at hp
    split at hp
    · rename_i hx
      cases i with
      | zero=>simp at h;rw [<- h];exact hx
      | succ i=>exact plL_get hp (by simpa using h)
    · cases hp
theorem find_some {tabs:List PB} {h:Nat} {p:PB} (e:tabs.find? (λ p=>p.1 == h)=some p):p ∈ tabs /\ p.1=h :=
  ⟨List.mem_of_find?_eq_some e,by simpa using List.find?_some e⟩
section
variable {tabs picks:List PB} {G:Nat} {F:HL} {w:World}
theorem tab_HR (ht:tabOk G tabs=true) (hR:Rel (tabs.map tabB++F) w):HR (tabN tabs G) (tabH tabs) F w:=by
  have key:∀ h b,hget (tabH tabs) h=some b -> ∃ p,tabs.find? (λ p=>p.1 == h)=some p /\ b=.cells (lenL p.2.1) (Tr.ofL undef p.2.1 0 .lf) p.2.2 1 true:=λ h b hb=>by
    rw [tab_get] at hb
    split at hb
    · rename_i p hp;cases hb;exact ⟨p,hp,rfl⟩
    · cases hb
  refine ⟨λ h b hb=>?_,λ h₁ h₂ b₁ b₂ r K₁ K₂ _ _ e1 e2=>?_,λ x hx=>hR.holds x (List.mem_append_right _ hx),λ h b r K hb e1 x hx=>?_⟩
  · obtain ⟨p,hp,rfl⟩:=key h b hb
    obtain ⟨hm,rfl⟩:=find_some hp
    obtain ⟨hlt,hpl⟩:=tabOk_mem ht p hm
    refine ⟨p.1,p.2.1.length,.cells ⟨p.2.1⟩ p.2.2 (0,0),by simp only [tabN,if_pos hlt,hp],?_,?_⟩
    · exact hR.holds (tabB p) (List.mem_append_left _ (List.mem_map.2 ⟨p,hm,rfl⟩))
    · refine ⟨rfl,by rw [lenL_eq];exact Nat.le_refl _,rfl,λ i hi=>?_,λ _=>by simp⟩
      rw [lenL_eq] at hi
      refine ⟨p.2.1[i],by simp [hi],?_⟩
      rw [ofL_get0 hi]
      exact VRi.plain_refl _ (plL_get hpl (List.getElem?_eq_getElem hi))
  · unfold tabN at e1 e2
    split at e1
    · split at e2
      · simp only [Option.some.injEq,Prod.mk.injEq] at e1 e2
        rw [e1.1,e2.1]
      · cases e2
    · cases e1
  · obtain ⟨p,hp,rfl⟩:=key h b hb
    obtain ⟨hm,rfl⟩:=find_some hp
    have hr:r=p.1:=by
      unfold tabN at e1
      split at e1
      · simp only [Option.some.injEq,Prod.mk.injEq] at e1;exact e1.1.symm
      · cases e1
    intro e
    have hn:=hR.nodup
    rw [List.map_append,List.nodup_append] at hn
    exact hn.2.2 p.1 (by rw [List.map_map];exact List.mem_map.2 ⟨p,hm,rfl⟩) x.1 (List.mem_map.2 ⟨x,hx,rfl⟩) (by rw [e,hr])
def chkT (H:AH) (p:PB):Bool:=match hget H p.1 with
  | some (.cells n t ty ww _)=>match Nat.beq n (lenL p.2.1),Nat.beq ty p.2.2,Nat.beq ww 1 with
    | true,true,true=>veqL (readN t 0 n) p.2.1
    | _,_,_=>false
  | _=>false
def chkTs (H:AH):List PB -> Bool
  | []=>true
  | p :: l=>match chkT H p with
    | true=>chkTs H l
    | false=>false
theorem chkTs_mem {H:AH}:∀ {l:List PB},chkTs H l=true -> ∀ p ∈ l,chkT H p=true
  | [],_,p,hp=>by simp at hp
  | q :: l,h,p,hp=>by
    rw [chkTs] at h
    split at h
    · rename_i h1
      rcases List.mem_cons.1 hp with rfl | hp
      · exact h1
      · exact chkTs_mem h p hp
    · cases h
theorem chkBs_mem {H:AH}:∀ {l:List PB},chkBs H l=true -> ∀ p ∈ l,chkB H p=true
  | [],_,p,hp=>by simp at hp
  | q :: l,h,p,hp=>by
    rw [chkBs] at h
    split at h
    · rename_i h1
      rcases List.mem_cons.1 hp with rfl | hp
      · exact h1
      · exact chkBs_mem h p hp
    · cases h
theorem LR.plain_eq {ν:Nu} {l l':List Value} (h:LR ν l l'):plL l=true -> l'=l:=by
  induction h with
  | nil=>intro _;rfl
  | @cons v v' l l' h _ ih =>
    intro hp
    rw [plL] at hp
    split at hp
    · rename_i hv;rw [VRi.plain_eq h hv,ih hp]
    · cases hp
theorem tab_out {ν:Nu} {H:AH} (hH:HR ν H F w) {p:PB} (hc:chkT H p=true) (hp:plL p.2.1=true) (hν:ν p.1=some (p.1,p.2.1.length)):w.heap[p.1]?=some (tabB p).2.den /\ ∃ b,hget H p.1=some b:=by
  unfold chkT at hc
  split at hc
  case h_2=>cases hc
  rename_i n t ty ww ro hb
  split at hc
  case h_2=>cases hc
  rename_i e1 e2 e3
  have e1:=Nat.eq_of_beq_eq_true e1
  have e2:=Nat.eq_of_beq_eq_true e2
  have e3:=Nat.eq_of_beq_eq_true e3
  have e4:=veqL_eq _ _ hc
  obtain ⟨c,ty',fz,g1,g2⟩:=hH.cells hb hν
  refine ⟨?_,_,hb⟩
  have hr:=readN_rel g2.le g2.get n 0 (by omega)
  rw [e4] at hr
  have hl:=hr.plain_eq hp
  have hsz:=g2.gr (by omega)
  rw [e3,Nat.mul_one] at hsz
  rw [lenL_eq] at e1
  rw [g1,g2.ty,g2.fz,e2]
  simp only [tabB,Blk.den]
  congr 2
  apply Array.ext'
  rw [List.drop_zero] at hl
  rw [<- hl,List.take_of_length_le]
  have:c.toList.length=c.size:=rfl
  omega
theorem nodup_uniq:∀ {l:List PB},(l.map (·.1)).Nodup -> ∀ {p q:PB},p ∈ l -> q ∈ l -> q.1=p.1 -> q=p
  | [],_,p,q,hp,_,_=>by simp at hp
  | x :: l,hd,p,q,hp,hq,e=>by
    simp only [List.map_cons,List.nodup_cons] at hd
    rcases List.mem_cons.1 hp with h1 | h1 <;> rcases List.mem_cons.1 hq with h2 | h2
    · rw [h1,h2]
    · exact absurd (List.mem_map.2 ⟨q,h2,by rw [e,h1]⟩) hd.1
    · exact absurd (List.mem_map.2 ⟨p,h1,by rw [<- e,h2]⟩) hd.1
    · exact nodup_uniq hd.2 h1 h2 e
def resQ (tabs picks:List PB) (v0:Value):Option Rs -> Bool
  | some (.fn v H _)=>match veq v v0,okVi v0,chkTs H tabs with
    | true,true,true=>chkBs H picks
    | _,_,_=>false
  | _=>false
theorem LR.plain_refl {ν:Nu}:∀ {l:List Value},plL l=true -> LR ν l l
  | [],_=>.nil
  | v :: l,h=>by
    rw [plL] at h
    split at h
    · rename_i hv;exact .cons (VRi.plain_refl v hv) (LR.plain_refl h)
    · cases h
theorem closed_sp {P:Program} (hm:P.follows .mixedOrders=true) {k n0:Nat} {f:FuncId} {args:List Value} {v0:Value} (hG:Nat.ble G n0=true) (ht:tabOk G tabs=true) (ha:plL args=true)
    (hnd:(tabs.map (·.1)++picks.map (·.1)).Nodup) (hrun:resQ tabs picks v0 (runK P G k (.fn f args (tabH tabs) n0))=true) :
    Sp P f ⟨args⟩ (tabs.map tabB) F λ v' H'=>∃ ν rest,v'=outV ν v0 /\ H'=tabs.map tabB++picks.map (pickB ν rest):=by
  intro w hR
  have hG:=le_of_ble hG
  cases hres:runK P G k (.fn f args (tabH tabs) n0) with
  | none=>rw [hres] at hrun;cases hrun
  | some res=>cases res with
    | cd e s=>rw [hres] at hrun;cases hrun
    | fn v H n' =>
      rw [hres] at hrun
      simp only [resQ] at hrun
      split at hrun
      case h_2=>cases hrun
      rename_i q1 q2 q3
      rw [runK_eq] at hres
      obtain ⟨hn,hcall⟩:=runA_ok hm k _ _ hres
      have hlt:∀ p ∈ tabs,p.1 < G:=λ p hp=>(tabOk_mem ht p hp).1
      refine (hcall (tabN tabs G) F w args (λ k hk=>⟨_,if_pos hk⟩) (λ h h1 h2=>by simp only [tabN];rw [if_neg (by omega)]) (tab_HR ht hR) (LR.plain_refl ha)).mono ?_
      rintro e w' ⟨ν,v',rfl,hv,hext,hH,hbel⟩
      rw [veq_eq _ _ q1] at hv
      have hνt:∀ p ∈ tabs,ν p.1=tabN tabs G p.1:=λ p hp=>hext.out _ (.inl (by have:=hlt p hp;omega))
      have hfind:∀ p ∈ tabs,ν p.1=some (p.1,p.2.1.length):=λ p hp=>by
        rw [hνt p hp]
        simp only [tabN,if_pos (hlt p hp)]
        congr 2
        have hd:(tabs.map (·.1)).Nodup:=(List.nodup_append.1 hnd).1
        cases hf:tabs.find? (λ q=>q.1 == p.1) with
        | none=>exact absurd (List.find?_eq_none.1 hf p hp) (by simp)
        | some q =>
          obtain ⟨hq,hq2⟩:=find_some hf
          have:q=p:=nodup_uniq hd hp hq hq2
          simp [this]
      have htab:∀ p ∈ tabs,w'.heap[p.1]?=some (tabB p).2.den /\ ∃ b,hget H p.1=some b:=λ p hp=>tab_out hH (chkTs_mem q3 p hp) (tabOk_mem ht p hp).2 (hfind p hp)
      have hpk:∀ p ∈ picks,(∃ K,ν p.1=some (nub ν p.1,K)) /\ (∃ b,hget H p.1=some b) /\ w'.heap[nub ν p.1]?=some (pickB ν (restBi ν w') p).2.den:=λ p hp=>pick_out hH (chkBs_mem hrun p hp)
      refine ⟨v',tabs.map tabB++picks.map (pickB ν (restBi ν w')),rfl,⟨ν,restBi ν w',outV_eq hv q2,rfl⟩,⟨?_,?_⟩,hbel⟩
      · intro x hx
        rcases List.mem_append.1 hx with hx | hx
        · rcases List.mem_append.1 hx with hx | hx
          · obtain ⟨p,hp,rfl⟩:=List.mem_map.1 hx
            exact (htab p hp).1
          · obtain ⟨p,hp,rfl⟩:=List.mem_map.1 hx
            exact (hpk p hp).2.2
        · exact hH.frm x hx
      · -- the handles' blocks
        have hall:∀ h ∈ tabs.map (·.1)++picks.map (·.1),∃ K b,ν h=some (nub ν h,K) /\ hget H h=some b:=λ h hh=>by
          rcases List.mem_append.1 hh with hh | hh
          · obtain ⟨p,hp,rfl⟩:=List.mem_map.1 hh
            obtain ⟨b,hb⟩:=(htab p hp).2
            exact ⟨p.2.1.length,b,by simp [nub,hfind p hp],hb⟩
          · obtain ⟨p,hp,rfl⟩:=List.mem_map.1 hh
            obtain ⟨⟨K,h1⟩,⟨b,hb⟩,-⟩:=hpk p hp
            exact ⟨K,b,h1,hb⟩
        have e1:(tabs.map tabB++picks.map (pickB ν (restBi ν w'))).map (·.1)=(tabs.map (·.1)++picks.map (·.1)).map (nub ν):=by
          simp only [List.map_append,List.map_map]
          congr 1
          apply List.map_congr_left
          intro p hp
          simp [tabB,nub,hfind p hp]
        rw [List.map_append,List.nodup_append,e1]
        refine ⟨?_,?_,λ a ha b hb=>?_⟩
        · rw [List.Nodup,List.pairwise_map]
          refine (List.pairwise_iff_forall_sublist.2 λ {a b} hs=>?_)
          have ha':=hall a (hs.subset (by simp))
          have hb':=hall b (hs.subset (by simp))
          obtain ⟨K1,b1,x1,x2⟩:=ha'
          obtain ⟨K2,b2,y1,y2⟩:=hb'
          intro e
          have hab:a=b:=hH.inj _ _ _ _ _ _ _ x2 y2 x1 (by rw [e];exact y1)
          have:=hnd.sublist hs
          simp [hab] at this
        · have:=hR.nodup
          rw [List.map_append,List.nodup_append] at this
          exact this.2.1
        · obtain ⟨h,hh,rfl⟩:=List.mem_map.1 ha
          obtain ⟨x,hx,rfl⟩:=List.mem_map.1 hb
          obtain ⟨K,b,g1,g2⟩:=hall h hh
          exact (hH.apt _ _ _ _ g2 g1 x hx).symm
end
end
noncomputable section
theorem mixed8:Tryz.prog.follows .mixedOrders=true:=by kernel_rfl
theorem lives20_q:resQ [] [] (.bool true) (runK Tryz.prog 1 100000 (.fn 12 [] (tabH []) 1))=true:=by kernel_rfl
theorem lives20_in {F:HL}:Sp Tryz.prog 12 #[] [] F λ u H'=>u=.bool true /\ H'=[] :=
  (closed_sp (G:=1) (tabs:=[]) (picks:=[]) mixed8 rfl rfl rfl (by simp) lives20_q).mono λ v' H' ⟨ν,rest,h1,h2⟩=>⟨by rw [h1];rfl,by simpa using h2⟩
end
noncomputable section
theorem prog20_q:resQ [] [] (.agg ⟨[.slice none 0 0,.int .i64 (-1),.int .i64 (-1),.int .i64 (-1)]⟩) (runK Tryz.prog 1 100000 (.fn 9 [.int .i64 0] (tabH []) 1))=true:=by kernel_rfl
theorem prog20_in {F:HL}:Sp Tryz.prog 9 #[.int .i64 0] [] F λ u H'=>u=.agg #[.slice none 0 0,.int .i64 (-1),.int .i64 (-1),.int .i64 (-1)] /\ H'=[] :=
  (closed_sp (G:=1) (tabs:=[]) (picks:=[]) mixed8 rfl rfl rfl (by simp) prog20_q).mono λ v' H' ⟨ν,rest,h1,h2⟩=>⟨by rw [h1];rfl,by simpa using h2⟩
end
theorem linit_next {S:Setup} (h:SetN S) {i:Nat} (hi:i < S.nb):updG (updG (updG (updG (updG (updG (irow (iniL S i)) ((bodyAt S i).toNat+0) 0 (vI (S.body i).mot.px)) ((bodyAt S i).toNat+1) 0 (vI (S.body i).mot.py)) ((bodyAt S i).toNat+2) 0 (vI (S.body i).mot.vx)) ((bodyAt S i).toNat+3) 0 (vI (S.body i).mot.vy)) ((bodyAt S i).toNat+4) 0 (vI (S.body i).a)) ((bodyAt S i).toNat+5) 0 (vI (S.body i).b)=irow (iniL S (i+1)):=by
 have hb:=bodyAt_in h hi
 rw [<- iniL_next h hi]
 rw [show (bodyAt S i+1).toNat=(bodyAt S i).toNat+1 by omega,show (bodyAt S i+2).toNat=(bodyAt S i).toNat+2 by omega,show (bodyAt S i+3).toNat=(bodyAt S i).toNat+3 by omega,show (bodyAt S i+4).toNat=(bodyAt S i).toNat+4 by omega,show (bodyAt S i+5).toNat=(bodyAt S i).toNat+5 by omega]
 rfl
theorem linit_any (S:Setup) (F:HL) (hS:SetIn F S):Sp Tryz.prog 7 #[(Setup.v S)] [] F (λ u H'=>∃ q,H'=ap [(q,.rows 1 (sizeOf S).toNat (irow (iniL S S.nb)) 3 (0,0))] [] /\ u=vS q 0 (sizeOf S).toNat (sizeOf S).toNat):=by
 have hp:=hS.pl
 have hn:=hS.nb
 have hr:=hS.room
 have hz:=sizeOf_bd hS.toSetN
 refine Sp.run Tryz.func7 rfl (mc hS.blk mn) (A:=[]) (Ts:=[]) rfl λ w0=>?_
 refine RN.go 13 [.own 0] λ n1=>RN.em (S.players < 0) 10 (λ h2=>?_) λ h2=>?_
 ·(exfalso;omega)
 ·refine RN.go 6 [.own 0] λ _=>RN.em (S.players > 1048576) 14 (λ h3=>?_) λ h3=>?_
  ·(exfalso;omega)
  ·refine RN.go 6 (ow 0 16) λ _=>RN.cp (lsize_any S _ hS.toSetN)<|RN.goP 14 [.mk ((sizeOf S).toNat) ((sizeOf S).toNat),.own 1] [sizeOf S=(((sizeOf S).toNat:Nat):Int) /\ sizeOf S=(((sizeOf S).toNat:Nat):Int) /\ (sizeOf S).toNat <= (sizeOf S).toNat /\ 8 * ((sizeOf S).toNat) <= 140737488355328 /\ 1=1 /\ (sizeOf S).toNat <= 9223372036854775807] λ n4=>RN.bv 0 (congrArg (λ v_=>(.rows 1 ((sizeOf S).toNat) v_ 3 (0,0):Blk)) (show (zrow [vI 0])=(irow (iniL S 0)) from (by rw [zrow_irow (sizeOf S).toNat] <;> rfl)))<|RN.loop (σ:=Nat) (λ i=>⟨[(1,vP (n1+0) 0),(3,vS (n4+0) 0 ((sizeOf S).toNat) ((sizeOf S).toNat)),(19,vS S.bb (S.bo * 9) S.nb S.bc),(20,vI (S.nb:Int)),(21,vI (i:Int))],[((n4+0),.rows 1 ((sizeOf S).toNat) (irow (iniL S i)) 3 (0,0)),((n1+0),.lit (Setup.l S) 32 (0,0))],[],i <= S.nb,S.nb - i⟩) 0 [0,1] [] (Nat.zero_le _) ?_
   rintro i hI5 mt6
   refine RN.go 6 [] λ _=>RN.em ((i:Int) < (S.nb:Int)) 22 (λ h7=>?_) λ h7=>?_
   ·have hbi:=bodyAt_in hS.toSetN (i:=i) (by omega)
    refine RN.goP 20 ([.ix i,.rorow 0 (S.bo+i) 0,.rorow 0 (S.bo+i) 1,.rorow 0 (S.bo+i) 2,.rorow 0 (S.bo+i) 3,.rorow 0 (S.bo+i) 4,.rorow 0 (S.bo+i) 5,.rorow 0 (S.bo+i) 6,.rorow 0 (S.bo+i) 7,.rorow 0 (S.bo+i) 8]++ow 0 9++ow 2 16) [((S.bo * 9+i * 9)+8)=(S.bo+i) * 9+8 /\ (S.bo+i) < S.bR,((S.bo * 9+i * 9)+7)=(S.bo+i) * 9+7 /\ (S.bo+i) < S.bR,((S.bo * 9+i * 9)+6)=(S.bo+i) * 9+6 /\ (S.bo+i) < S.bR,((S.bo * 9+i * 9)+5)=(S.bo+i) * 9+5 /\ (S.bo+i) < S.bR,((S.bo * 9+i * 9)+4)=(S.bo+i) * 9+4 /\ (S.bo+i) < S.bR,((S.bo * 9+i * 9)+3)=(S.bo+i) * 9+3 /\ (S.bo+i) < S.bR,((S.bo * 9+i * 9)+2)=(S.bo+i) * 9+2 /\ (S.bo+i) < S.bR,((S.bo * 9+i * 9)+1)=(S.bo+i) * 9+1 /\ (S.bo+i) < S.bR,(S.bo * 9+i * 9)=(S.bo+i) * 9+0 /\ (S.bo+i) < S.bR,(i:Int)=((i:Nat):Int) /\ i < S.nb] λ n8=>RN.cp (lbody_any S (i:Int) _ hS.toSetN) ?_
    have hb9:=bodyAt_bd hS.toSetN (i:Int)
    refine RN.goP 5 [.sl ((bodyAt S (i:Int)).toNat) ((sizeOf S).toNat) false] [bodyAt S (i:Int)=(((bodyAt S (i:Int)).toNat:Nat):Int) /\ (sizeOf S).toNat=(sizeOf S).toNat /\ (bodyAt S (i:Int)).toNat <= (sizeOf S).toNat /\ (sizeOf S).toNat <= (sizeOf S).toNat /\ (sizeOf S).toNat ≠ (bodyAt S (i:Int)).toNat] λ _=>RN.draw [11,13] [0,2]<|RD.goP [0,2] [0,1,2,6,3,7,4,8,5,9,10] [.own 0,.ro 0,.ix 0] [0=((0:Nat):Int) /\ 0 < ((sizeOf S).toNat - (bodyAt S (i:Int)).toNat)]<|RD.one 11 (RDO.evP [0,2] [.row 1 (((bodyAt S (i:Int)).toNat)+0) 0] [((0+((bodyAt S (i:Int)).toNat) * 1)+0 * 1)=(((bodyAt S (i:Int)).toNat)+0) * 1+0 /\ (((bodyAt S (i:Int)).toNat)+0) < ((sizeOf S).toNat)] λ _=>?_)
    refine RD.goP [0,2] [12] [.ix 1] [1=((1:Nat):Int) /\ 1 < ((sizeOf S).toNat - (bodyAt S (i:Int)).toNat)]<|RD.one 13 (RDO.evP [0,2] [.row 1 (((bodyAt S (i:Int)).toNat)+1) 0] [((0+((bodyAt S (i:Int)).toNat) * 1)+1 * 1)=(((bodyAt S (i:Int)).toNat)+1) * 1+0 /\ (((bodyAt S (i:Int)).toNat)+1) < ((sizeOf S).toNat)] λ _=>?_)
    refine RD.fin<|RN.go 2 [] λ _=>RN.draw [11,13] [0,2]<|RD.goP [0,2] [0,1,2,6,3,7,4,8,5,9,10] [.own 0,.ro 0,.ix 2] [2=((2:Nat):Int) /\ 2 < ((sizeOf S).toNat - (bodyAt S (i:Int)).toNat)]<|RD.one 11 (RDO.evP [0,2] [.row 1 (((bodyAt S (i:Int)).toNat)+2) 0] [((0+((bodyAt S (i:Int)).toNat) * 1)+2 * 1)=(((bodyAt S (i:Int)).toNat)+2) * 1+0 /\ (((bodyAt S (i:Int)).toNat)+2) < ((sizeOf S).toNat)] λ _=>?_)
    refine RD.goP [0,2] [12] [.ix 3] [3=((3:Nat):Int) /\ 3 < ((sizeOf S).toNat - (bodyAt S (i:Int)).toNat)]<|RD.one 13 (RDO.evP [0,2] [.row 1 (((bodyAt S (i:Int)).toNat)+3) 0] [((0+((bodyAt S (i:Int)).toNat) * 1)+3 * 1)=(((bodyAt S (i:Int)).toNat)+3) * 1+0 /\ (((bodyAt S (i:Int)).toNat)+3) < ((sizeOf S).toNat)] λ _=>?_)
    refine RD.fin<|RN.go 1 [] λ _=>RN.draw [7,9] [0,2]<|RD.goP [0,2] [0,1,2,4,3,5,6] [.own 0,.ro 0,.ix 4] [4=((4:Nat):Int) /\ 4 < ((sizeOf S).toNat - (bodyAt S (i:Int)).toNat)]<|RD.one 7 (RDO.evP [0,2] [.row 1 (((bodyAt S (i:Int)).toNat)+4) 0] [((0+((bodyAt S (i:Int)).toNat) * 1)+4 * 1)=(((bodyAt S (i:Int)).toNat)+4) * 1+0 /\ (((bodyAt S (i:Int)).toNat)+4) < ((sizeOf S).toNat)] λ _=>?_)
    refine RD.goP [0,2] [8] [.ix 5] [5=((5:Nat):Int) /\ 5 < ((sizeOf S).toNat - (bodyAt S (i:Int)).toNat)]<|RD.one 9 (RDO.evP [0,2] [.row 1 (((bodyAt S (i:Int)).toNat)+5) 0] [((0+((bodyAt S (i:Int)).toNat) * 1)+5 * 1)=(((bodyAt S (i:Int)).toNat)+5) * 1+0 /\ (((bodyAt S (i:Int)).toNat)+5) < ((sizeOf S).toNat)] λ _=>?_)
    refine RD.fin<|RN.goP 6 [.nw] [I64 ((i:Int)+1)] λ _=>RN.bv 1 (congrArg (λ v_=>(.rows 1 ((sizeOf S).toNat) v_ 3 (0,0):Blk)) (show (updG (updG (updG (updG (updG (updG (irow (iniL S i)) (((bodyAt S (i:Int)).toNat)+0) 0 (vI ((S.bods.getD (S.bo+i) dB).mot.px))) (((bodyAt S (i:Int)).toNat)+1) 0 (vI ((S.bods.getD (S.bo+i) dB).mot.py))) (((bodyAt S (i:Int)).toNat)+2) 0 (vI ((S.bods.getD (S.bo+i) dB).mot.vx))) (((bodyAt S (i:Int)).toNat)+3) 0 (vI ((S.bods.getD (S.bo+i) dB).mot.vy))) (((bodyAt S (i:Int)).toNat)+4) 0 (vI ((S.bods.getD (S.bo+i) dB).a))) (((bodyAt S (i:Int)).toNat)+5) 0 (vI ((S.bods.getD (S.bo+i) dB).b)))=(irow (iniL S (i+1))) from (by rw [<- linit_next hS.toSetN (i:=i) (by omega)] <;> kernel_rfl))) ?_
    refine mt6 (i+1) [1,2] [] ?_
    try dsimp only
    exact ⟨by omega,by omega⟩
   ·refine RN.go 12 [] λ _=>RN.ret [] [0] [] (v:=vS (n4+0) 0 ((sizeOf S).toNat) ((sizeOf S).toNat)) (H':=[((n4+0),.rows 1 ((sizeOf S).toNat) (irow (iniL S i)) 3 (0,0))]) ?_
    have ei:i=S.nb:=by omega
    subst ei
    exact ⟨_,rfl,rfl⟩
theorem newn_any (q:Nat) (cs:List Int) (n k cap:Nat) (F:HL) (hn:cs.length=n) (hq:(q,.rows 1 n (irow cs) 3 (0,0)) ∈ F) (hc:n <= 1000000) (hk:k <= 100000000) (hcap:n <= cap):Sp Tryz.prog 6 #[vS q 0 n cap] (ap [] []) F (λ u H'=>∃ x:Nat × HL,H'=ap [] [x.2] /\ (u=vP x.1 0 /\ MemH x.1 ⟨cs,[],0⟩ k x.2)):=by
 subst hn
 exact new_any q cs k cap F hq hc hk hcap
theorem linit_ap (S:Setup) (F:HL) (hS:SetIn F S):Sp Tryz.prog 7 #[Setup.v S] (ap [] []) F (λ u H'=>∃ q,H'=ap [(q,.rows 1 (sizeOf S).toNat (irow (iniL S S.nb)) 3 (0,0))] [] /\ u=vS q 0 (sizeOf S).toNat (sizeOf S).toNat):=linit_any S F hS
theorem SlIs.openL {α:Type} {e:Enc α} {T:TypeId} {l:List α} {A:Option Addr} {cap:Nat} {Hl:HL} (h:SlIs e T l A cap Hl) (hz:zeroOff A) (hw:0 < e.w) (hl:0 < l.length):∃ b rest,A=some ⟨b,0,none⟩ /\ Hl=[(b,.rows e.w cap (rowE e (l++rest)) T (0,0))] /\ (l++rest).length=cap:=by
 rcases h with ⟨_,_,rfl,_⟩ | ⟨b,o,full,rfl,rfl,h3,h4,h5⟩
 ·simp at hl
 ·have ho:o=0:=by
   have h6:o * e.w=0:=hz
   rcases Nat.mul_eq_zero.1 h6 with h | h
   ·exact h
   ·omega
  subst ho
  have:l++full.drop l.length=full:=by
   conv=>lhs;lhs;rw [<- h5]
   rw [List.drop_zero,List.take_append_drop]
  refine ⟨b,full.drop l.length,by rw [Nat.zero_mul],?_,by rw [this];omega⟩
  rw [this,Nat.zero_add]
abbrev farSet (b n c:Nat) (l:List Bod):Setup:=⟨1,b,0,n,c,c,l,⟨-100000,-100000,100000,100000⟩,none,0,0,none,0,0,0,⟨0,0⟩,0,0,0,2,5⟩
abbrev farBod (V:Nat -> V2) (i:Nat):Bod:=⟨⟨1024,[],none,0⟩,far0 V i,0,0⟩
theorem far_pr {m:Nat} (a:2 <= m) (b:m <= 5):0 <= (m:Int) * ((m:Int) - 1) /\ (m:Int) * ((m:Int) - 1) <= 20:=by
 obtain rfl | rfl | rfl | rfl:m=2 \/ m=3 \/ m=4 \/ m=5:=by omega
 all_goals decide
theorem farV_ext {V V':Nat -> V2} {i:Nat} (h:V' i=V i):farBod V' i=farBod V i:=by unfold farBod far0;rw [h]
theorem far_set {V:Nat -> V2} {l r:List Bod} {b n c:Nat} (hn:2 <= n /\ n <= 5) (hl:l.length=n) (hb:∀ t,t < n -> l.getD t dB=farBod V t) (hv:∀ i,(-2000 <= (V i).x /\ (V i).x <= 2000) /\ (-2000 <= (V i).y /\ (V i).y <= 2000)):FarS (farSet b n c (l++r)) V:=by
 refine ⟨rfl,hn,λ i hi=>⟨none,0,?_⟩,rfl,rfl,rfl,rfl,rfl,rfl,rfl,hv⟩
 show (l++r).getD (0+i) dB=_
 have hi':i < n:=hi
 rw [Nat.zero_add,getD_app (by omega)]
 exact hb i hi'
theorem far_in {V:Nat -> V2} {F:HL} {l r:List Bod} {b n c:Nat} (hn:2 <= n /\ n <= 5) (hl:l.length=n) (hc:n <= c) (hb:∀ t,t < n -> l.getD t dB=farBod V t) (hF:(b,.rows 9 c (brow (l++r)) 39 (0,0)) ∈ F):SetIn F (farSet b n c (l++r)):=by
 refine ⟨⟨by show (0:Int) <= 1 /\ (1:Int) <= 1000000;decide,by show n <= 1000000;omega⟩,hF,by show 0+n <= c;omega,λ k hk=>?_⟩
 have hk':k < n:=hk
 have e:(farSet b n c (l++r)).body k=farBod V k:=by
  show (l++r).getD (0+k) dB=_
  rw [Nat.zero_add,getD_app (by omega)]
  exact hb k hk'
 rw [e]
 exact .circle _ _ _
theorem pickb_run (A:Option Addr) (n cap:Nat) (i m:Int) (xs:List Int) (F:HL) (hl:ArgL F A n xs) (hm:0 < m):Sp Tryz.prog 5 #[.slice A n cap,vI i,vI m] (ap [] []) F (λ u H'=>∃ v:Int,H'=ap [] [] /\ (u=vI v /\ 0 <= v /\ v < m)):=by
 refine Sp.run Tryz.func5 rfl mn (A:=[]) (Ts:=[]) rfl λ w0=>?_
 refine RN.go 11 [] λ _=>RN.em (i < 0) 9 (λ h1=>?_) λ h1=>?_
 ·refine RN.go 13 [] λ _=>RN.ret [] [] [] (v:=vI 0) (H':=(ap [] [])) ?_
  exact ⟨_,rfl,rfl,by omega⟩
 ·refine RN.go 7 [] λ _=>RN.em (i >= (n:Int)) 14 (λ h2=>?_) λ h2=>?_
  ·refine RN.go 6 [] λ _=>RN.ret [] [] [] (v:=vI 0) (H':=(ap [] [])) ?_
   exact ⟨_,rfl,rfl,by omega⟩
  ·refine RN.go 7 [] λ _=>?_
   obtain ⟨qx3,ox3,Nx3,gx3,tyx3,fzx3,hAx3,hqx3,hox3,hgx3,hrx3⟩:=hl.at (k:=i.toNat) (by omega)
   refine RN.sv 15 (congrArg (λ v_=>(.slice v_ n cap:Value)) hAx3)<|RN.ro (λ _=>(mc hqx3 mn))<|RN.goP 2 [.ix ((i).toNat),.rorow 0 (ox3+((i).toNat)) 0] [(ox3+((i).toNat) * 1)=(ox3+((i).toNat)) * 1+0 /\ (ox3+((i).toNat)) < Nx3,i=(((i).toNat:Nat):Int) /\ (i).toNat < n] λ _=>RN.sv 18 (congrArg (λ v_=>(v_:Value)) hgx3)<|RN.go 1 [] λ _=>RN.cp (around_any (xs.getD i.toNat 0) m (by omega) _)<|RN.go 3 [] λ _=>RN.ret [] [] [] (v:=vI (around (xs.getD i.toNat 0) m)) (H':=(ap [] [])) ?_
   exact ⟨_,rfl,rfl,around_bd hrx3 m hm⟩
end Go.Proofs.YthoijjeddhfcnaaGreat
