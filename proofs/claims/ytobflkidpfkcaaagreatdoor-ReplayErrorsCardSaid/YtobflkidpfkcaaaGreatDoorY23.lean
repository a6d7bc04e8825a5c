import Derived.Test.YtobflkidpfkcaaaGreatDoorY21
import Derived.Test.YtobflkidpfkcaaaGreatDoorY22
import Derived.Test.YtobflkidpfkcaaaGreatDoorProg
import Derived.Test.YtobflkidpfkcaaaGreatDoorY15
import Derived.Test.YtobflkidpfkcaaaGreatDoorY04
import Derived.RecoverIn
set_option maxHeartbeats 4000000
set_option maxRecDepth 100000
set_option linter.unusedSimpArgs false
set_option linter.unusedVariables false
namespace Go.Proofs.YtobflkidpfkcaaaGreatDoor
open Go.RowKit
noncomputable section
def uq (ν:Nu) (h:Nat):Nat:=match ν h with
 | some (b,_)=>b
 | none=>0
def O1 (ν:Nu) (h c:Nat):Nat:=match Nat.blt c lm with
 | true=>c
 | false=>match ν h with
  | some (_,K)=>K - (c - lm)
  | none=>0
mutual
def lL (ν:Nu):Value -> Value
 | .pointer (some a)=>.pointer (some ⟨uq ν a.block,a.off,none⟩)
 | .slice (some a) n c=>.slice (some ⟨uq ν a.block,a.off,none⟩) n (O1 ν a.block c)
 | .map (some h)=>.map (some (uq ν h))
 | .iface t v=>.iface t (lL ν v)
 | .agg c=>.agg (Gb ν c)
 | .tuple c=>.tuple (Gb ν c)
 | v=>v
def Gb (ν:Nu):Array Value -> Array Value
 | ⟨l⟩=>⟨Gc ν l⟩
def Gc (ν:Nu):List Value -> List Value
 | []=>[]
 | v :: l=>lL ν v :: Gc ν l
end
mutual
def qY:Value -> Bool
 | .iface _ v=>qY v
 | .func f a c=>pl (.func f a c)
 | .agg c=>Og c
 | .tuple c=>Og c
 | .chan _=>false
 | _=>true
def Og:Array Value -> Bool
 | ⟨l⟩=>Lw l
def Lw:List Value -> Bool
 | []=>true
 | v :: l=>match qY v with
  | true=>Lw l
  | false=>false
end
theorem ur {ν:Nu}:∀ {l l':List Value},l.length=l'.length -> (∀ (i:Nat) (v v':Value),l[i]?=some v -> l'[i]?=some v' -> qY v=true -> v'=lL ν v) -> Lw l=true -> l'=Gc ν l
 | [],[],_,_,_=>rfl
 | [],_ :: _,e,_,_=>by simp at e
 | _ :: _,[],e,_,_=>by simp at e
 | v :: l,v' :: l',e,h,ho=>by
  rw [Lw] at ho
  cases hv:qY v with
  | false=>rw [hv] at ho;cases ho
  | true =>
   rw [hv] at ho
   have a1:=h 0 v v' rfl rfl hv
   have a2:=ur (l:=l) (l':=l') (by simpa using e) (λ i a b h1 h2=>h (i+1) a b (by simpa using h1) (by simpa using h2)) ho
   rw [Gc,<- a1,<- a2]
theorem AK {ν:Nu} {v v':Value} (h:VRi ν v v'):qY v=true -> v'=lL ν v:=by
 induction h with
 | atom v h =>
  intro _
  cases v with
  | pointer a=>cases a with
   | none=>rfl
   | some a=>simp [cz] at h
  | slice a n c=>cases a with
   | none=>rfl
   | some a=>simp [cz] at h
  | map r=>cases r with
   | none=>rfl
   | some r=>simp [cz] at h
  | iface t v=>simp [cz] at h
  | agg c=>simp [cz] at h
  | tuple c=>simp [cz] at h
  | _=>rfl
 | ptr o h=>intro _;simp [lL,uq,h]
 | @slice hd b K c c' o n h hc =>
  intro _
  simp only [lL,uq,O1,h]
  congr 1
  cases hb:Nat.blt c lm with
  | true=>exact hc.1 (Eq.mp Nat.blt_eq hb)
  | false =>
   have h2:=hc.2 (ku hb)
   simp only
   omega
 | map h=>intro _;simp [lL,uq,h]
 | func hf e1 h1 e2 h2 _ _ =>
  intro ho
  have:=VRi.plain_eq (VRi.func hf e1 h1 e2 h2) (by simpa only [qY] using ho)
  rw [this];rfl
 | iface t _ ih=>intro ho;rw [lL,<- ih (by simpa only [qY] using ho)]
 | @agg c c' e _ ih =>
  intro ho
  obtain ⟨l⟩:=c
  obtain ⟨l'⟩:=c'
  simp only [List.getElem?_toArray] at ih
  rw [lL,Gb,ur (l:=l) (l':=l') e ih (by simpa only [qY,Og] using ho)]
 | @tuple c c' e _ ih =>
  intro ho
  obtain ⟨l⟩:=c
  obtain ⟨l'⟩:=c'
  simp only [List.getElem?_toArray] at ih
  rw [lL,Gb,ur (l:=l) (l':=l') e ih (by simpa only [qY,Og] using ho)]
theorem I4 {ν:Nu} {l l':List Value} (h:LR ν l l'):Lw l=true -> l'=l.map (lL ν):=by
 induction h with
 | nil=>intro _;rfl
 | @cons v v' l l' h _ ih =>
  intro ho
  rw [Lw] at ho
  cases hv:qY v with
  | false=>rw [hv] at ho;cases ho
  | true =>
   rw [hv] at ho
   rw [List.map_cons,AK h hv,ih ho]
abbrev PB:=Nat × List Value × TypeId
def I5 (H:AH) (p:PB):Bool:=match bO H p.1 with
 | some (.cells n t ty _ _)=>match Nat.beq n (fW p.2.1),Nat.beq ty p.2.2 with
  | true,true=>match pq (gx t 0 n) p.2.1 with
   | true=>Lw p.2.1
   | false=>false
  | _,_=>false
 | _=>false
def AL (H:AH):List PB -> Bool
 | []=>true
 | p :: l=>match I5 H p with
  | true=>AL H l
  | false=>false
def ov (ν:Nu) (w:World) (p:PB):List Value:=match w.heap[uq ν p.1]? with
 | some (.cells c _ _)=>c.toList.drop p.2.1.length
 | _=>[]
def qZ (ν:Nu) (rest:PB -> List Value) (p:PB):Nat × Blk:=(uq ν p.1,.lit (p.2.1.map (lL ν)++rest p) p.2.2 (0,0))
theorem AM (l l':List Value) (h:pq l l'=true):l=l':=by
 induction l generalizing l' with
 | nil=>cases l' with
  | nil=>rfl
  | cons v l'=>simp [pq] at h
 | cons v l ih=>cases l' with
  | nil=>simp [pq] at h
  | cons v' l' =>
   rw [pq] at h
   cases hv:rE v v' with
   | false=>rw [hv] at h;cases h
   | true=>rw [hv] at h;rw [yR _ _ hv,ih _ h]
theorem Ge {ν:Nu} {H:AH} {F:HL} {w:World} (hH:HR ν H F w) {p:PB} (hc:I5 H p=true) :
  (∃ K,ν p.1=some (uq ν p.1,K)) /\ (∃ b,bO H p.1=some b) /\ w.heap[uq ν p.1]?=some (qZ ν (ov ν w) p).2.den:=by
 unfold I5 at hc
 split at hc
 case h_2=>cases hc
 rename_i n t ty ww ro hb
 split at hc
 case h_2=>cases hc
 rename_i e1 e2
 have e1:=Nat.eq_of_beq_eq_true e1
 have e2:=Nat.eq_of_beq_eq_true e2
 split at hc
 case h_2=>cases hc
 rename_i e3
 have e3:=AM _ _ e3
 obtain ⟨r,K,o,h1,h2,h3⟩:=hH.blk _ _ hb
 have hn:uq ν p.1=r:=by simp [uq,h1]
 have hcc:=hH.cells hb h1
 obtain ⟨c,ty',fz,g1,g2⟩:=hcc
 refine ⟨⟨K,by rw [hn];exact h1⟩,⟨_,hb⟩,?_⟩
 rw [hn,g1]
 have hr:=jL g2.le g2.get n 0 (by omega)
 rw [e3] at hr
 have hl:=I4 hr hc
 rw [dW] at e1
 simp only [qZ,Blk.den,ov,hn,g1,g2.ty,g2.fz,<- e2]
 congr 2
 apply Array.ext'
 simp only
 rw [<- hl,List.drop_zero,<- e1,List.take_append_drop]
def wU:List PB -> AH
 | []=>.lf
 | p :: l=>cP (wU l) p.1 (some (.cells (fW p.2.1) (dD undef p.2.1 0 .lf) p.2.2 1 true))
def wV (tabs:List PB) (G:Nat):Nu:=λ h=>if h < G then some (h,match tabs.find? (λ p=>p.1 == h) with | some p=>p.2.1.length | none=>0) else none
def nD (p:PB):Nat × Blk:=(p.1,.lit p.2.1 p.2.2 (0,0))
def wW (G:Nat):List PB -> Bool
 | []=>true
 | p :: l=>match Nat.blt p.1 G,wa p.2.1,l.any (λ q=>q.1 == p.1) with
  | true,true,false=>wW G l
  | _,_,_=>false
end
noncomputable section
theorem AO:∀ (tabs:List PB) (h:Nat),bO (wU tabs) h=match tabs.find? (λ p=>p.1 == h) with
  | some p=>some (.cells (fW p.2.1) (dD undef p.2.1 0 .lf) p.2.2 1 true)
  | none=>none
 | [],h=>yG _
 | p :: l,h=>by
  rw [wU,dq,AO l h]
  by_cases e:p.1=h
  ·rw [if_pos e,List.find?_cons_of_pos (by simpa using e)]
  ·rw [if_neg e,List.find?_cons_of_neg (by simpa using e)]
theorem lz {G:Nat}:∀ {tabs:List PB},wW G tabs=true -> ∀ p ∈ tabs,p.1 < G /\ wa p.2.1=true
 | [],_,p,hp=>by simp at hp
 | q :: l,h,p,hp=>by
  rw [wW] at h
  split at h
  ·rename_i h1 h2 h3
   rcases List.mem_cons.1 hp with rfl | hp
   ·exact ⟨Eq.mp Nat.blt_eq h1,h2⟩
   ·exact lz h p hp
  ·cases h
theorem AP:∀ {l:List Value},wa l=true -> ∀ {i:Nat} {v:Value},l[i]?=some v -> pl v=true
 | [],_,i,v,h=>by simp at h
 | x :: l,hp,i,v,h=>by
  rw [wa] at hp
  split at hp
  ·rename_i hx
   cases i with
   | zero=>simp at h;rw [<- h];exact hx
   | succ i=>exact AP hp (by simpa using h)
  ·cases hp
theorem ox {tabs:List PB} {h:Nat} {p:PB} (e:tabs.find? (λ p=>p.1 == h)=some p):p ∈ tabs /\ p.1=h :=
 ⟨List.mem_of_find?_eq_some e,by simpa using List.find?_some e⟩
section
variable {tabs picks:List PB} {G:Nat} {F:HL} {w:World}
theorem Ly (ht:wW G tabs=true) (hR:Rel (tabs.map nD++F) w):HR (wV tabs G) (wU tabs) F w:=by
 have key:∀ h b,bO (wU tabs) h=some b -> ∃ p,tabs.find? (λ p=>p.1 == h)=some p /\ b=.cells (fW p.2.1) (dD undef p.2.1 0 .lf) p.2.2 1 true:=λ h b hb=>by
  rw [AO] at hb
  split at hb
  ·rename_i p hp;cases hb;exact ⟨p,hp,rfl⟩
  ·cases hb
 refine ⟨λ h b hb=>?_,λ h₁ h₂ b₁ b₂ r K₁ K₂ _ _ e1 e2=>?_,λ x hx=>hR.holds x (List.mem_append_right _ hx),λ h b r K hb e1 x hx=>?_⟩
 ·obtain ⟨p,hp,rfl⟩:=key h b hb
  obtain ⟨hm,rfl⟩:=ox hp
  obtain ⟨hlt,hpl⟩:=lz ht p hm
  refine ⟨p.1,p.2.1.length,.cells ⟨p.2.1⟩ p.2.2 (0,0),by simp only [wV,if_pos hlt,hp],?_,?_⟩
  ·exact hR.holds (nD p) (List.mem_append_left _ (List.mem_map.2 ⟨p,hm,rfl⟩))
  ·refine ⟨rfl,by rw [dW];exact Nat.le_refl _,rfl,λ i hi=>?_,λ _=>by simp⟩
   rw [dW] at hi
   refine ⟨p.2.1[i],by simp [hi],?_⟩
   rw [kT hi]
   exact VRi.plain_refl _ (AP hpl (List.getElem?_eq_getElem hi))
 ·unfold wV at e1 e2
  split at e1
  ·split at e2
   ·simp only [Option.some.injEq,Prod.mk.injEq] at e1 e2
    rw [e1.1,e2.1]
   ·cases e2
  ·cases e1
 ·obtain ⟨p,hp,rfl⟩:=key h b hb
  obtain ⟨hm,rfl⟩:=ox hp
  have hr:r=p.1:=by
   unfold wV at e1
   split at e1
   ·simp only [Option.some.injEq,Prod.mk.injEq] at e1;exact e1.1.symm
   ·cases e1
  intro e
  have hn:=hR.nodup
  rw [List.map_append,List.nodup_append] at hn
  exact hn.2.2 p.1 (by rw [List.map_map];exact List.mem_map.2 ⟨p,hm,rfl⟩) x.1 (List.mem_map.2 ⟨x,hx,rfl⟩) (by rw [e,hr])
def I6 (H:AH) (p:PB):Bool:=match bO H p.1 with
 | some (.cells n t ty ww _)=>match Nat.beq n (fW p.2.1),Nat.beq ty p.2.2,Nat.beq ww 1 with
  | true,true,true=>pq (gx t 0 n) p.2.1
  | _,_,_=>false
 | _=>false
def AQ (H:AH):List PB -> Bool
 | []=>true
 | p :: l=>match I6 H p with
  | true=>AQ H l
  | false=>false
theorem td {H:AH}:∀ {l:List PB},AQ H l=true -> ∀ p ∈ l,I6 H p=true
 | [],_,p,hp=>by simp at hp
 | q :: l,h,p,hp=>by
  rw [AQ] at h
  split at h
  ·rename_i h1
   rcases List.mem_cons.1 hp with rfl | hp
   ·exact h1
   ·exact td h p hp
  ·cases h
theorem te {H:AH}:∀ {l:List PB},AL H l=true -> ∀ p ∈ l,I5 H p=true
 | [],_,p,hp=>by simp at hp
 | q :: l,h,p,hp=>by
  rw [AL] at h
  split at h
  ·rename_i h1
   rcases List.mem_cons.1 hp with rfl | hp
   ·exact h1
   ·exact te h p hp
  ·cases h
theorem LR.plain_eq {ν:Nu} {l l':List Value} (h:LR ν l l'):wa l=true -> l'=l:=by
 induction h with
 | nil=>intro _;rfl
 | @cons v v' l l' h _ ih =>
  intro hp
  rw [wa] at hp
  split at hp
  ·rename_i hv;rw [VRi.plain_eq h hv,ih hp]
  ·cases hp
theorem I7 {ν:Nu} {H:AH} (hH:HR ν H F w) {p:PB} (hc:I6 H p=true) (hp:wa p.2.1=true) (hν:ν p.1=some (p.1,p.2.1.length)):w.heap[p.1]?=some (nD p).2.den /\ ∃ b,bO H p.1=some b:=by
 unfold I6 at hc
 split at hc
 case h_2=>cases hc
 rename_i n t ty ww ro hb
 split at hc
 case h_2=>cases hc
 rename_i e1 e2 e3
 have e1:=Nat.eq_of_beq_eq_true e1
 have e2:=Nat.eq_of_beq_eq_true e2
 have e3:=Nat.eq_of_beq_eq_true e3
 have e4:=AM _ _ hc
 obtain ⟨c,ty',fz,g1,g2⟩:=hH.cells hb hν
 refine ⟨?_,_,hb⟩
 have hr:=jL g2.le g2.get n 0 (by omega)
 rw [e4] at hr
 have hl:=hr.plain_eq hp
 have hsz:=g2.gr (by omega)
 rw [e3,Nat.mul_one] at hsz
 rw [dW] at e1
 rw [g1,g2.ty,g2.fz,e2]
 simp only [nD,Blk.den]
 congr 2
 apply Array.ext'
 rw [List.drop_zero] at hl
 rw [<- hl,List.take_of_length_le]
 have:c.toList.length=c.size:=rfl
 omega
theorem rd:∀ {l:List PB},(l.map (·.1)).Nodup -> ∀ {p q:PB},p ∈ l -> q ∈ l -> q.1=p.1 -> q=p
 | [],_,p,q,hp,_,_=>by simp at hp
 | x :: l,hd,p,q,hp,hq,e=>by
  simp only [List.map_cons,List.nodup_cons] at hd
  rcases List.mem_cons.1 hp with h1 | h1 <;> rcases List.mem_cons.1 hq with h2 | h2
  ·rw [h1,h2]
  ·exact absurd (List.mem_map.2 ⟨q,h2,by rw [e,h1]⟩) hd.1
  ·exact absurd (List.mem_map.2 ⟨p,h1,by rw [<- e,h2]⟩) hd.1
  ·exact rd hd.2 h1 h2 e
def Lz (tabs picks:List PB) (v0:Value):Option Rs -> Bool
 | some (.fn v H _)=>match rE v v0,qY v0,AQ H tabs with
  | true,true,true=>AL H picks
  | _,_,_=>false
 | _=>false
theorem LR.plain_refl {ν:Nu}:∀ {l:List Value},wa l=true -> LR ν l l
 | [],_=>.nil
 | v :: l,h=>by
  rw [wa] at h
  split at h
  ·rename_i hv;exact .cons (VRi.plain_refl v hv) (LR.plain_refl h)
  ·cases h
theorem tf {P:Program} (hm:P.follows .mixedOrders=true) {k n0:Nat} {f:FuncId} {args:List Value} {v0:Value} (hG:Nat.ble G n0=true) (ht:wW G tabs=true) (ha:wa args=true)
  (hnd:(tabs.map (·.1)++picks.map (·.1)).Nodup) (hrun:Lz tabs picks v0 (Ga P G k (.fn f args (wU tabs) n0))=true) :
  Sp P f ⟨args⟩ (tabs.map nD) F λ v' H'=>∃ ν rest,v'=lL ν v0 /\ H'=tabs.map nD++picks.map (qZ ν rest):=by
 intro w hR
 have hG:=bP hG
 cases hres:Ga P G k (.fn f args (wU tabs) n0) with
 | none=>rw [hres] at hrun;cases hrun
 | some res=>cases res with
  | cd e s=>rw [hres] at hrun;cases hrun
  | fn v H n' =>
   rw [hres] at hrun
   simp only [Lz] at hrun
   split at hrun
   case h_2=>cases hrun
   rename_i q1 q2 q3
   rw [AJ] at hres
   obtain ⟨hn,hcall⟩:=Ap hm k _ _ hres
   have hlt:∀ p ∈ tabs,p.1 < G:=λ p hp=>(lz ht p hp).1
   refine (hcall (wV tabs G) F w args (λ k hk=>⟨_,if_pos hk⟩) (λ h h1 h2=>by simp only [wV];rw [if_neg (by omega)]) (Ly ht hR) (LR.plain_refl ha)).mono ?_
   rintro e w' ⟨ν,v',rfl,hv,hext,hH,hbel⟩
   rw [yR _ _ q1] at hv
   have hνt:∀ p ∈ tabs,ν p.1=wV tabs G p.1:=λ p hp=>hext.out _ (.inl (by have:=hlt p hp;omega))
   have hfind:∀ p ∈ tabs,ν p.1=some (p.1,p.2.1.length):=λ p hp=>by
    rw [hνt p hp]
    simp only [wV,if_pos (hlt p hp)]
    congr 2
    have hd:(tabs.map (·.1)).Nodup:=(List.nodup_append.1 hnd).1
    cases hf:tabs.find? (λ q=>q.1 == p.1) with
    | none=>exact absurd (List.find?_eq_none.1 hf p hp) (by simp)
    | some q =>
     obtain ⟨hq,hq2⟩:=ox hf
     have:q=p:=rd hd hp hq hq2
     simp [this]
   have htab:∀ p ∈ tabs,w'.heap[p.1]?=some (nD p).2.den /\ ∃ b,bO H p.1=some b:=λ p hp=>I7 hH (td q3 p hp) (lz ht p hp).2 (hfind p hp)
   have hpk:∀ p ∈ picks,(∃ K,ν p.1=some (uq ν p.1,K)) /\ (∃ b,bO H p.1=some b) /\ w'.heap[uq ν p.1]?=some (qZ ν (ov ν w') p).2.den:=λ p hp=>Ge hH (te hrun p hp)
   refine ⟨v',tabs.map nD++picks.map (qZ ν (ov ν w')),rfl,⟨ν,ov ν w',AK hv q2,rfl⟩,⟨?_,?_⟩,hbel⟩
   ·intro x hx
    rcases List.mem_append.1 hx with hx | hx
    ·rcases List.mem_append.1 hx with hx | hx
     ·obtain ⟨p,hp,rfl⟩:=List.mem_map.1 hx
      exact (htab p hp).1
     ·obtain ⟨p,hp,rfl⟩:=List.mem_map.1 hx
      exact (hpk p hp).2.2
    ·exact hH.frm x hx
   ·-- the handles' blocks
    have hall:∀ h ∈ tabs.map (·.1)++picks.map (·.1),∃ K b,ν h=some (uq ν h,K) /\ bO H h=some b:=λ h hh=>by
     rcases List.mem_append.1 hh with hh | hh
     ·obtain ⟨p,hp,rfl⟩:=List.mem_map.1 hh
      obtain ⟨b,hb⟩:=(htab p hp).2
      exact ⟨p.2.1.length,b,by simp [uq,hfind p hp],hb⟩
     ·obtain ⟨p,hp,rfl⟩:=List.mem_map.1 hh
      obtain ⟨⟨K,h1⟩,⟨b,hb⟩,-⟩:=hpk p hp
      exact ⟨K,b,h1,hb⟩
    have e1:(tabs.map nD++picks.map (qZ ν (ov ν w'))).map (·.1)=(tabs.map (·.1)++picks.map (·.1)).map (uq ν):=by
     simp only [List.map_append,List.map_map]
     congr 1
     apply List.map_congr_left
     intro p hp
     simp [nD,uq,hfind p hp]
    rw [List.map_append,List.nodup_append,e1]
    refine ⟨?_,?_,λ a ha b hb=>?_⟩
    ·rw [List.Nodup,List.pairwise_map]
     refine (List.pairwise_iff_forall_sublist.2 λ {a b} hs=>?_)
     have ha':=hall a (hs.subset (by simp))
     have hb':=hall b (hs.subset (by simp))
     obtain ⟨K1,b1,x1,x2⟩:=ha'
     obtain ⟨K2,b2,y1,y2⟩:=hb'
     intro e
     have hab:a=b:=hH.inj _ _ _ _ _ _ _ x2 y2 x1 (by rw [e];exact y1)
     have:=hnd.sublist hs
     simp [hab] at this
    ·have:=hR.nodup
     rw [List.map_append,List.nodup_append] at this
     exact this.2.1
    ·obtain ⟨h,hh,rfl⟩:=List.mem_map.1 ha
     obtain ⟨x,hx,rfl⟩:=List.mem_map.1 hb
     obtain ⟨K,b,g1,g2⟩:=hall h hh
     exact (hH.apt _ _ _ _ g2 g1 x hx).symm
end
end
theorem Gf {P:Program} {f:FuncId} {args:Array Value} {x:Nat × Blk} {F:HL} {Q:Value -> HL -> Prop} (hx:x ∈ F) (h:∀ F0,Sp P f args [x] F0 λ u H'=>∃ Hp,Q u Hp /\ H'=[x]++Hp):Sp P f args [] F Q:=by
 obtain ⟨l1,l2,rfl⟩:=List.append_of_mem hx
 have hp:∀ H:HL,([x]++H++(l1++l2)).Perm (H++(l1++x :: l2)):=λ H=>by
  refine List.Perm.trans ?_ (List.Perm.append_left H List.perm_middle.symm)
  show (x :: (H++(l1++l2))).Perm (H++x :: (l1++l2))
  exact List.perm_middle.symm
 intro w hR
 have hR1:Rel ([x]++(l1++l2)) w:=hR.perm (by have:=hp [];simpa using this)
 refine (h (l1++l2) w hR1).mono ?_
 rintro e w' ⟨v,H',he,⟨Hp,hq,rfl⟩,hR',hb⟩
 exact ⟨v,Hp,he,hq,hR'.perm (hp Hp).symm,hb⟩
noncomputable section
def iv (x:Int):Value:=.int .i64 x
def us:List Value:=[iv 0,iv 0,iv 0,iv 1,iv 0,iv 1,iv 1,iv 0,iv 1,iv 1,iv 2,iv 0,iv 0,iv 1,iv 0,iv 1,iv 0,iv 1,iv 2,iv 1,iv 2,iv 1,iv 2,iv 1,iv 2,iv 1,iv 1,iv 1,iv 2,iv 1,iv 2,iv 1,iv 2,iv 1,iv 1,iv 1,iv 0,iv 0,iv 1,iv 0,iv 2,iv 0,iv 0,iv 0]
def lY:List PB:=[(1,us,250)]
def Nj:String:="on tick { n = n + 1; if n >= 3 { effect 1, n; n = 0; } }"
def Nl:String:="on act { vx[self] = vx[self] + 100 * other; effect 2, self; } on hit { a[self] = a[self] + 1; effect 3, other; }"
def Nm:String:="on hit { if hit[other] == self + 1 && a[self] < a[other] { vx[self] = -vx[self]; b[self] = tick; } else { stop; } effect 4, a[self]; }"
def Nn:String:="on tick { i = 0; while i < 4 { b[i] = b[i] + still[i]; i = i + 1; } s = s + x[0] / 100; effect 5, s; } on act { s = 0; }"
def Np:List Value:=[iv 2,iv 0,iv 1,iv 1,iv 9,iv 0,iv 3,iv 0,iv 1,iv 3,iv 2,iv 0,iv 15,iv 0,iv 19,iv 14,iv 1,iv 1,iv 2,iv 0,iv 20,iv 0,iv 1,iv 0,iv 3,iv 0,iv 18,iv 14,iv 21,iv 0]
def Nq:List Value:=[iv 6,iv 0,iv 6,iv 0,iv 4,iv 2,iv 1,iv 100,iv 7,iv 0,iv 11,iv 0,iv 9,iv 0,iv 5,iv 2,iv 1,iv 2,iv 6,iv 0,iv 20,iv 0,iv 21,iv 0,iv 6,iv 0,iv 6,iv 0,iv 4,iv 4,iv 1,iv 1,iv 9,iv 0,iv 5,iv 4,iv 1,iv 3,iv 7,iv 0,iv 20,iv 0,iv 21,iv 0]
def Nr:List Value:=[iv 7,iv 0,iv 4,iv 6,iv 6,iv 0,iv 1,iv 1,iv 9,iv 0,iv 16,iv 0,iv 19,iv 13,iv 6,iv 0,iv 4,iv 4,iv 7,iv 0,iv 4,iv 4,iv 14,iv 0,iv 18,iv 14,iv 1,iv 0,iv 19,iv 24,iv 6,iv 0,iv 6,iv 0,iv 4,iv 2,iv 13,iv 0,iv 5,iv 2,iv 6,iv 0,iv 8,iv 0,iv 5,iv 5,iv 18,iv 25,iv 21,iv 0,iv 1,iv 4,iv 6,iv 0,iv 4,iv 4,iv 20,iv 0,iv 21,iv 0]
def Ns:List Value:=[iv 1,iv 0,iv 3,iv 0,iv 21,iv 0,iv 1,iv 0,iv 3,iv 1,iv 2,iv 1,iv 1,iv 4,iv 14,iv 0,iv 19,iv 21,iv 2,iv 1,iv 2,iv 1,iv 4,iv 5,iv 2,iv 1,iv 4,iv 7,iv 9,iv 0,iv 5,iv 5,iv 2,iv 1,iv 1,iv 1,iv 9,iv 0,iv 3,iv 1,iv 18,iv 5,iv 2,iv 0,iv 1,iv 0,iv 4,iv 0,iv 1,iv 100,iv 12,iv 0,iv 9,iv 0,iv 3,iv 0,iv 1,iv 5,iv 2,iv 0,iv 20,iv 0,iv 21,iv 0]
def CS (h len:Nat) (a b c:Int):Value:=.tuple ⟨[.agg ⟨[.slice (some ⟨h,0,none⟩) len lm,iv a,iv b,iv c]⟩,iv 0]⟩
def O2:Value:=.tuple ⟨[.agg ⟨[.slice none 0 0,iv (-1),iv (-1),iv (-1)]⟩,iv 0]⟩
def tg (src:String) (picks:List PB) (v:Value):Bool:=Lz lY picks v (Ga Tryz.prog 4 100000 (.fn 39 [.string src.toUTF8] (wU lY) 4))
theorem mixed:Tryz.prog.follows .mixedOrders=true:=by kernel_rfl
theorem pO {src:String} {h:Nat} {cod:List Value} {ty:TypeId} {v:Value} {F:HL} (hh:h ≠ 1) (hq:tg src [(h,cod,ty)] v=true) :
  Sp Tryz.prog 39 #[.string src.toUTF8] (lY.map nD) F λ v' H'=>∃ ν rest,v'=lL ν v /\ H'=lY.map nD++[qZ ν rest (h,cod,ty)] :=
 tf (G:=4) (tabs:=lY) (picks:=[(h,cod,ty)]) mixed rfl rfl rfl (by simp [lY,hh.symm]) hq
theorem I8:tg "" [] O2=true:=by kernel_rfl
end
theorem I9:tg Nj [(1096,Np,176)] (CS 1096 15 (-1) 0 (-1))=true:=by kernel_rfl
theorem Ja:tg Nl [(1805,Nq,176)] (CS 1805 22 0 (-1) 12)=true:=by kernel_rfl
theorem Jb:tg Nm [(2349,Nr,176)] (CS 2349 30 (-1) (-1) 0)=true:=by kernel_rfl
theorem Jc:tg Nn [(2280,Ns,176)] (CS 2280 32 0 3 (-1))=true:=by kernel_rfl
noncomputable section
def o0:Nat -> ByteArray
 | 0=>"".toUTF8
 | 1=>Nj.toUTF8
 | 2=>Nl.toUTF8
 | 3=>Nm.toUTF8
 | _=>Nn.toUTF8
def oy:Nat -> List Value
 | 0=>[]
 | 1=>Np
 | 2=>Nq
 | 3=>Nr
 | _=>Ns
def cD:Nat -> Nat
 | 0=>0
 | 1=>15
 | 2=>22
 | 3=>30
 | _=>32
def Jd:Nat -> List Value
 | 0=>[iv (-1),iv (-1),iv (-1)]
 | 1=>[iv (-1),iv 0,iv (-1)]
 | 2=>[iv 0,iv (-1),iv 12]
 | 3=>[iv (-1),iv (-1),iv 0]
 | _=>[iv 0,iv 3,iv (-1)]
inductive PrgV (j:Nat):Value -> HL -> Prop
 | nil:j=0 -> PrgV j (.slice none 0 0) []
 | some (b cap:Nat) (rest:List Value):PrgV j (.slice (some ⟨b,0,none⟩) (cD j) cap) [(b,.lit (oy j++rest) 176 (0,0))]
theorem lA (ν:Nu) (h len:Nat) (a b c:Int):lL ν (CS h len a b c)=.tuple ⟨[.agg ⟨[.slice (some ⟨uq ν h,0,none⟩) len (O1 ν h lm),iv a,iv b,iv c]⟩,iv 0]⟩:=by
 simp only [CS,lL,Gb,Gc,iv]
theorem Gg {j:Nat} (hj:j < 5) {F:HL}:Sp Tryz.prog 39 #[.string (o0 j)] (lY.map nD) F λ u H'=>∃ s Hp,PrgV j s Hp /\ u=.tuple ⟨[.agg ⟨s :: Jd j⟩,iv 0]⟩ /\ H'=lY.map nD++Hp:=by
 match j,hj with
 | 0,_ =>
  refine (tf (G:=4) (tabs:=lY) (picks:=[]) mixed rfl rfl rfl (by simp [lY]) I8).mono ?_
  rintro u H' ⟨ν,rest,rfl,rfl⟩
  exact ⟨_,[],.nil rfl,rfl,rfl⟩
 | 1,_ =>
  refine (pO (by decide) I9).mono ?_
  rintro u H' ⟨ν,rest,rfl,rfl⟩
  exact ⟨_,_,.some _ _ _,lA ..,rfl⟩
 | 2,_ =>
  refine (pO (by decide) Ja).mono ?_
  rintro u H' ⟨ν,rest,rfl,rfl⟩
  exact ⟨_,_,.some _ _ _,lA ..,rfl⟩
 | 3,_ =>
  refine (pO (by decide) Jb).mono ?_
  rintro u H' ⟨ν,rest,rfl,rfl⟩
  exact ⟨_,_,.some _ _ _,lA ..,rfl⟩
 | 4,_ =>
  refine (pO (by decide) Jc).mono ?_
  rintro u H' ⟨ν,rest,rfl,rfl⟩
  exact ⟨_,_,.some _ _ _,lA ..,rfl⟩
theorem Je {j:Nat} (hj:j < 5) {F:HL} (hF:(1,Blk.lit us 250 (0,0)) ∈ F):Sp Tryz.prog 39 #[.string (o0 j)] [] F λ u H'=>∃ s,PrgV j s H' /\ u=.tuple ⟨[.agg ⟨s :: Jd j⟩,iv 0]⟩ :=
 Gf hF λ F0=>(Gg hj).mono λ u H' ⟨s,Hp,h1,h2,h3⟩=>⟨Hp,⟨s,h1,h2⟩,h3⟩
end
def bA (j k:Nat):Int:=match (Jd j)[k]? with | some (.int _ x)=>x | _=>0
def J6:List Value -> List Ins
 | .int _ a :: .int _ b :: r=>⟨a,b⟩ :: J6 r
 | _=>[]
def fE (j:Nat):List Ins:=J6 (oy j)
theorem kX:∀ {j:Nat},j < 5 -> (fE j).length=cD j
 | 0,_=>by kernel_rfl
 | 1,_=>by kernel_rfl
 | 2,_=>by kernel_rfl
 | 3,_=>by kernel_rfl
 | 4,_=>by kernel_rfl
 | j+5,h=>absurd h (by omega)
theorem mE:∀ {j:Nat},j < 5 -> oy j=ay gQ (fE j)
 | 0,_=>by kernel_rfl
 | 1,_=>by kernel_rfl
 | 2,_=>by kernel_rfl
 | 3,_=>by kernel_rfl
 | 4,_=>by kernel_rfl
 | j+5,h=>absurd h (by omega)
theorem pP:∀ {j:Nat},j < 5 -> cD j <= 32
 | 0,_=>by decide
 | 1,_=>by decide
 | 2,_=>by decide
 | 3,_=>by decide
 | 4,_=>by decide
 | j+5,h=>absurd h (by omega)
theorem Jf:∀ {j:Nat},j < 5 -> Jd j=[vI (bA j 0),vI (bA j 1),vI (bA j 2)]
 | 0,_=>by kernel_rfl
 | 1,_=>by kernel_rfl
 | 2,_=>by kernel_rfl
 | 3,_=>by kernel_rfl
 | 4,_=>by kernel_rfl
 | j+5,h=>absurd h (by omega)
abbrev o7 (F:HL):Prop:=(1,Blk.lit us 250 (0,0)) ∈ F
def InsW (F:HL) (j:Nat) (A:Option Addr):Prop:=0 < cD j -> ∃ b rest,A=some ⟨b,0,none⟩ /\ (b,Blk.lit (oy j++rest) 176 (0,0)) ∈ F
structure CodT (j:Nat) (A:Option Addr) (T:HL):Prop where
 src:∀ F,(∀ x ∈ T,x ∈ F) -> SrcIn Tryz.prog gQ F A (cD j) (fE j)
 wrd:∀ F,(∀ x ∈ T,x ∈ F) -> InsW F j A
theorem Gh {j:Nat} (hj:j < 5) (F:HL) (hE:o7 F):Sp Tryz.prog 39 #[.string (o0 j)] (ap [] []) F (λ u H'=>∃ x:Option Addr × Nat × HL,H'=ap [] [x.2.2] /\ (u=.tuple #[.agg #[.slice x.1 (cD j) x.2.1,vI (bA j 0),vI (bA j 1),vI (bA j 2)],vI 0] /\ CodT j x.1 x.2.2)):=by
 refine (Je hj hE).mono ?_
 rintro u H' ⟨s,hp,rfl⟩
 rw [Jf hj]
 cases hp with
 | nil h0 =>
  subst h0
  exact ⟨(none,0,[]),(bj _).symm,rfl,⟨λ F hF=>SrcIn.none,λ F hF h=>absurd h (by decide)⟩⟩
 | some b cap rest =>
  refine ⟨(some ⟨b,0,none⟩,cap,[(b,.lit (oy j++rest) 176 (0,0))]),(bj _).symm,rfl,⟨λ F hF=>?_,λ F hF h=>⟨b,rest,rfl,hF _ (List.mem_singleton.2 rfl)⟩⟩⟩
  have h:=SrcIn.lit Ea (xs:=fE j) (rest:=rest) (ty:=176) (fz:=(0,0)) (F:=F) (q:=b) (by rw [<- mE hj];exact hF _ (List.mem_singleton.2 rfl))
  rw [kX hj] at h
  exact h
inductive Book1 (j bp:Nat):HL -> Prop
 | mk (q:Nat) (A:Option Addr) (c:Nat) (T:HL) (h:CodT j A T):Book1 j bp (ap [(bp,.lit [vS q 0 1 1] 110 (0,0)),(q,.lit [vI 0,.slice A (cD j) c,vI (bA j 0),vI (bA j 1),vI (bA j 2)] 107 (0,0))] [T])
def Nt:List Value:=[.string ⟨#[]⟩,.string ⟨#[111,110,32,116,105,99,107,32,123,32,110,32,61,32,110,32,43,32,49,59,32,105,102,32,110,32,62,61,32,51,32,123,32,101,102,102,101,99,116,32,49,44,32,110,59,32,110,32,61,32,48,59,32,125,32,125]⟩,.string ⟨#[111,110,32,97,99,116,32,123,32,118,120,91,115,101,108,102,93,32,61,32,118,120,91,115,101,108,102,93,32,43,32,49,48,48,32,42,32,111,116,104,101,114,59,32,101,102,102,101,99,116,32,50,44,32,115,101,108,102,59,32,125,32,111,110,32,104,105,116,32,123,32,97,91,115,101,108,102,93,32,61,32,97,91,115,101,108,102,93,32,43,32,49,59,32,101,102,102,101,99,116,32,51,44,32,111,116,104,101,114,59,32,125]⟩,.string ⟨#[111,110,32,104,105,116,32,123,32,105,102,32,104,105,116,91,111,116,104,101,114,93,32,61,61,32,115,101,108,102,32,43,32,49,32,38,38,32,97,91,115,101,108,102,93,32,60,32,97,91,111,116,104,101,114,93,32,123,32,118,120,91,115,101,108,102,93,32,61,32,45,118,120,91,115,101,108,102,93,59,32,98,91,115,101,108,102,93,32,61,32,116,105,99,107,59,32,125,32,101,108,115,101,32,123,32,115,116,111,112,59,32,125,32,101,102,102,101,99,116,32,52,44,32,97,91,115,101,108,102,93,59,32,125]⟩,.string ⟨#[111,110,32,116,105,99,107,32,123,32,105,32,61,32,48,59,32,119,104,105,108,101,32,105,32,60,32,52,32,123,32,98,91,105,93,32,61,32,98,91,105,93,32,43,32,115,116,105,108,108,91,105,93,59,32,105,32,61,32,105,32,43,32,49,59,32,125,32,115,32,61,32,115,32,43,32,120,91,48,93,32,47,32,49,48,48,59,32,101,102,102,101,99,116,32,53,44,32,115,59,32,125,32,111,110,32,97,99,116,32,123,32,115,32,61,32,48,59,32,125]⟩]
def LA:Nat -> Nat -> Value:=λ i k=>match k with | 0=>.string (o0 i) | _=>default
theorem wX (F:HL):Sp Tryz.prog 40 #[] (ap [] []) F (λ u H'=>∃ q:Nat,H'=ap [(q,.lit Nt 9 (0,0))] [] /\ u=vS q 0 5 5):=by
 refine Sp.run Tryz.func40 rfl mn (A:=[]) (Ts:=[]) rfl λ w0=>?_
 refine ae 11 [] λ n1=>RN.ret [] [0] [] (v:=vS (n1+0) 0 5 5) (H':=(ap [((n1+0),.lit Nt 9 (0,0))] [])) ?_
 exact ⟨_,rfl,rfl⟩
theorem re (n:Int) (F:HL) (hn:mr n):Sp Tryz.prog 18 #[vI n] [] F (λ u H'=>u=.string (o0 (aC n 5).toNat) /\ H'=[]):=by
 refine Sp.run Tryz.func18 rfl mn (A:=[]) (Ts:=[]) rfl λ w0=>?_
 refine ae 7 [] λ _=>RN.ct (Hp:=[]) (Tp:=[]) [] [] (wX _) ?_
 rintro _ q1 rfl
 refine ae 1 [] λ _=>aj (iE n 5 (by decide) _) ?_
 have hA2:=dF (n:=n) hn 5 (by decide)
 refine RN.dn 0 (.rows 1 5 LA 9 (0,0))<|ai 5 [.ix ((aC n 5).toNat),.row 0 ((aC n 5).toNat) 0] [(0+((aC n 5).toNat) * 1)=((aC n 5).toNat) * 1+0 /\ ((aC n 5).toNat) < 5,aC n 5=(((aC n 5).toNat:Nat):Int) /\ (aC n 5).toNat < 5] λ _=>?_
 exact RN.ret [] [] [] ⟨rfl,rfl⟩
theorem Gi (j:Nat) (F:HL) (hj:j < 5) (hE:o7 F):Sp Tryz.prog 17 #[.string (o0 j)] (ap [] []) F (λ u H'=>∃ x:Nat × HL,H'=ap [] [x.2] /\ (u=.tuple #[vP x.1 0,vI 0] /\ Book1 j x.1 x.2)):=by
 refine Sp.run Tryz.func17 rfl mn (A:=[]) (Ts:=[]) rfl λ w0=>?_
 refine ae 9 [] λ _=>RN.ct (Hp:=[]) (Tp:=[]) [] [] (Gh hj _ (aw hE)) ?_
 rintro _ ⟨A1,c2,T3⟩ ⟨rfl,hC4⟩
 dsimp only at hC4
 refine ae 29 (ow 0 8) λ n5=>RN.ret [] [0,1] [0] (v:=.tuple #[vP (n5+2) 0,vI 0]) (H':=(ap [((n5+2),.lit [vS (n5+1) 0 1 1] 110 (0,0)),((n5+1),.lit [vI 0,.slice A1 (cD j) c2,vI (bA j 0),vI (bA j 1),vI (bA j 2)] 107 (0,0))] [T3])) ?_
 exact ⟨((n5+2),ap [((n5+2),.lit [vS (n5+1) 0 1 1] 110 (0,0)),((n5+1),.lit [vI 0,.slice A1 (cD j) c2,vI (bA j 0),vI (bA j 1),vI (bA j 2)] 107 (0,0))] [T3]),by simp [ap],rfl,.mk _ _ _ _ hC4⟩
open Go.Shelf
theorem Gj (c0 c1 c2 c3 c4:Value) (F:HL):SpD Tryz.prog 90 #[c0,c1,c2,c3,c4] [] F (λ _ H'=>H'=[]):=by
 intro w hR
 refine callsDIn_of_wpSIn (F:=Wr none) (n:=0) Tryz.func90 rfl trivial λ c₀ cs hu=>?_
 have hrc:recoverD (c₀ :: cs)=none:=by simp [recoverD,hu]
 refine wpSIn_seq (wpSIn_region ?_)
 show wpOpsSIn _ _ _ _ _ [0,1] _ _ _
 simp only [wpOpsSIn,List.getElem?_toArray,List.getElem?_cons_zero,List.getElem?_cons_succ]
 simp [wpOpsSIn,go_sem,hrc,Tryz.ntmps90,Exit.thenS]
 refine wpSIn_cond (t:=false) (by simp [Act.eval,Array.replicate]) ?_
 refine wpSIn_of_wpIn rfl ?_
 refine wpIn_skip ?_
 simp [bodyPostS,results,Tryz.results90,hu]
 exact ⟨.returning,by cases c₀;simp at hu;subst hu;rfl,hu ▸ rfl,hR,Below.refl _ _⟩
end Go.Proofs.YtobflkidpfkcaaaGreatDoor
