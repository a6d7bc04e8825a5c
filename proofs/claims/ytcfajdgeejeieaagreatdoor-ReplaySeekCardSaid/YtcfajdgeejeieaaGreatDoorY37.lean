import Derived.Test.YtcfajdgeejeieaaGreatDoorY34
import Derived.Test.YtcfajdgeejeieaaGreatDoorY36
import Derived.Test.YtcfajdgeejeieaaGreatDoorProg
import Derived.Test.YtcfajdgeejeieaaGreatDoorY26
import Derived.Test.YtcfajdgeejeieaaGreatDoorY11
set_option maxHeartbeats 4000000
set_option maxRecDepth 100000
set_option linter.unusedSimpArgs false
set_option linter.unusedVariables false
namespace Go.Proofs.YtcfajdgeejeieaaGreatDoor
open Go.RowKit
noncomputable section
def tV (ν:Nu) (h:Nat):Nat:=match ν h with
 | some (b,_)=>b
 | none=>0
def NM (ν:Nu) (h c:Nat):Nat:=match Nat.blt c kZ with
 | true=>c
 | false=>match ν h with
  | some (_,K)=>K - (c - kZ)
  | none=>0
mutual
def ly (ν:Nu):Value -> Value
 | .pointer (some a)=>.pointer (some ⟨tV ν a.block,a.off,none⟩)
 | .slice (some a) n c=>.slice (some ⟨tV ν a.block,a.off,none⟩) n (NM ν a.block c)
 | .map (some h)=>.map (some (tV ν h))
 | .iface t v=>.iface t (ly ν v)
 | .agg c=>.agg (Fq ν c)
 | .tuple c=>.tuple (Fq ν c)
 | v=>v
def Fq (ν:Nu):Array Value -> Array Value
 | ⟨l⟩=>⟨Fs ν l⟩
def Fs (ν:Nu):List Value -> List Value
 | []=>[]
 | v :: l=>ly ν v :: Fs ν l
end
mutual
def qE:Value -> Bool
 | .iface _ v=>qE v
 | .func f a c=>pl (.func f a c)
 | .agg c=>MY c
 | .tuple c=>MY c
 | .chan _=>false
 | _=>true
def MY:Array Value -> Bool
 | ⟨l⟩=>KA l
def KA:List Value -> Bool
 | []=>true
 | v :: l=>match qE v with
  | true=>KA l
  | false=>false
end
theorem tW {ν:Nu}:∀ {l l':List Value},l.length=l'.length -> (∀ (i:Nat) (v v':Value),l[i]?=some v -> l'[i]?=some v' -> qE v=true -> v'=ly ν v) -> KA l=true -> l'=Fs ν l
 | [],[],_,_,_=>rfl
 | [],_ :: _,e,_,_=>by simp at e
 | _ :: _,[],e,_,_=>by simp at e
 | v :: l,v' :: l',e,h,ho=>by
  rw [KA] at ho
  cases hv:qE v with
  | false=>rw [hv] at ho;cases ho
  | true =>
   rw [hv] at ho
   have a1:=h 0 v v' rfl rfl hv
   have a2:=tW (l:=l) (l':=l') (by simpa using e) (λ i a b h1 h2=>h (i+1) a b (by simpa using h1) (by simpa using h2)) ho
   rw [Fs,<- a1,<- a2]
theorem zX {ν:Nu} {v v':Value} (h:VRi ν v v'):qE v=true -> v'=ly ν v:=by
 induction h with
 | atom v h =>
  intro _
  cases v with
  | pointer a=>cases a with
   | none=>rfl
   | some a=>simp [cw] at h
  | slice a n c=>cases a with
   | none=>rfl
   | some a=>simp [cw] at h
  | map r=>cases r with
   | none=>rfl
   | some r=>simp [cw] at h
  | iface t v=>simp [cw] at h
  | agg c=>simp [cw] at h
  | tuple c=>simp [cw] at h
  | _=>rfl
 | ptr o h=>intro _;simp [ly,tV,h]
 | @slice hd b K c c' o n h hc =>
  intro _
  simp only [ly,tV,NM,h]
  congr 1
  cases hb:Nat.blt c kZ with
  | true=>exact hc.1 (Eq.mp Nat.blt_eq hb)
  | false =>
   have h2:=hc.2 (kf hb)
   simp only
   omega
 | map h=>intro _;simp [ly,tV,h]
 | func hf e1 h1 e2 h2 _ _ =>
  intro ho
  have:=VRi.plain_eq (VRi.func hf e1 h1 e2 h2) (by simpa only [qE] using ho)
  rw [this];rfl
 | iface t _ ih=>intro ho;rw [ly,<- ih (by simpa only [qE] using ho)]
 | @agg c c' e _ ih =>
  intro ho
  obtain ⟨l⟩:=c
  obtain ⟨l'⟩:=c'
  simp only [List.getElem?_toArray] at ih
  rw [ly,Fq,tW (l:=l) (l':=l') e ih (by simpa only [qE,MY] using ho)]
 | @tuple c c' e _ ih =>
  intro ho
  obtain ⟨l⟩:=c
  obtain ⟨l'⟩:=c'
  simp only [List.getElem?_toArray] at ih
  rw [ly,Fq,tW (l:=l) (l':=l') e ih (by simpa only [qE,MY] using ho)]
theorem HZ {ν:Nu} {l l':List Value} (h:LR ν l l'):KA l=true -> l'=l.map (ly ν):=by
 induction h with
 | nil=>intro _;rfl
 | @cons v v' l l' h _ ih =>
  intro ho
  rw [KA] at ho
  cases hv:qE v with
  | false=>rw [hv] at ho;cases ho
  | true =>
   rw [hv] at ho
   rw [List.map_cons,zX h hv,ih ho]
abbrev PB:=Nat × List Value × TypeId
def H3 (H:AH) (p:PB):Bool:=match bT H p.1 with
 | some (.cells n t ty _ _)=>match Nat.beq n (fR p.2.1),Nat.beq ty p.2.2 with
  | true,true=>match oS (gt t 0 n) p.2.1 with
   | true=>KA p.2.1
   | false=>false
  | _,_=>false
 | _=>false
def zY (H:AH):List PB -> Bool
 | []=>true
 | p :: l=>match H3 H p with
  | true=>zY H l
  | false=>false
def nW (ν:Nu) (w:World) (p:PB):List Value:=match w.heap[tV ν p.1]? with
 | some (.cells c _ _)=>c.toList.drop p.2.1.length
 | _=>[]
def qF (ν:Nu) (rest:PB -> List Value) (p:PB):Nat × Blk:=(tV ν p.1,.lit (p.2.1.map (ly ν)++rest p) p.2.2 (0,0))
theorem zZ (l l':List Value) (h:oS l l'=true):l=l':=by
 induction l generalizing l' with
 | nil=>cases l' with
  | nil=>rfl
  | cons v l'=>simp [oS] at h
 | cons v l ih=>cases l' with
  | nil=>simp [oS] at h
  | cons v' l' =>
   rw [oS] at h
   cases hv:qW v v' with
   | false=>rw [hv] at h;cases h
   | true=>rw [hv] at h;rw [yo _ _ hv,ih _ h]
theorem Ft {ν:Nu} {H:AH} {F:HL} {w:World} (hH:HR ν H F w) {p:PB} (hc:H3 H p=true) :
  (∃ K,ν p.1=some (tV ν p.1,K)) /\ (∃ b,bT H p.1=some b) /\ w.heap[tV ν p.1]?=some (qF ν (nW ν w) p).2.den:=by
 unfold H3 at hc
 split at hc
 case h_2=>cases hc
 rename_i n t ty ww ro hb
 split at hc
 case h_2=>cases hc
 rename_i e1 e2
 have e1:=Nat.eq_of_beq_eq_true e1
 have e2:=Nat.eq_of_beq_eq_true e2
 split at hc
 case h_2=>cases hc
 rename_i e3
 have e3:=zZ _ _ e3
 obtain ⟨r,K,o,h1,h2,h3⟩:=hH.blk _ _ hb
 have hn:tV ν p.1=r:=by simp [tV,h1]
 have hcc:=hH.cells hb h1
 obtain ⟨c,ty',fz,g1,g2⟩:=hcc
 refine ⟨⟨K,by rw [hn];exact h1⟩,⟨_,hb⟩,?_⟩
 rw [hn,g1]
 have hr:=jz g2.le g2.get n 0 (by omega)
 rw [e3] at hr
 have hl:=HZ hr hc
 rw [dQ] at e1
 simp only [qF,Blk.den,nW,hn,g1,g2.ty,g2.fz,<- e2]
 congr 2
 apply Array.ext'
 simp only
 rw [<- hl,List.drop_zero,<- e1,List.take_append_drop]
def wB:List PB -> AH
 | []=>.lf
 | p :: l=>cP (wB l) p.1 (some (.cells (fR p.2.1) (du undef p.2.1 0 .lf) p.2.2 1 true))
def wC (tabs:List PB) (G:Nat):Nu:=λ h=>if h < G then some (h,match tabs.find? (λ p=>p.1 == h) with | some p=>p.2.1.length | none=>0) else none
def m5 (p:PB):Nat × Blk:=(p.1,.lit p.2.1 p.2.2 (0,0))
def wD (G:Nat):List PB -> Bool
 | []=>true
 | p :: l=>match Nat.blt p.1 G,vH p.2.1,l.any (λ q=>q.1 == p.1) with
  | true,true,false=>wD G l
  | _,_,_=>false
end
noncomputable section
theorem z0:∀ (tabs:List PB) (h:Nat),bT (wB tabs) h=match tabs.find? (λ p=>p.1 == h) with
  | some p=>some (.cells (fR p.2.1) (du undef p.2.1 0 .lf) p.2.2 1 true)
  | none=>none
 | [],h=>yc _
 | p :: l,h=>by
  rw [wB,dk,z0 l h]
  by_cases e:p.1=h
  ·rw [if_pos e,List.find?_cons_of_pos (by simpa using e)]
  ·rw [if_neg e,List.find?_cons_of_neg (by simpa using e)]
theorem ln {G:Nat}:∀ {tabs:List PB},wD G tabs=true -> ∀ p ∈ tabs,p.1 < G /\ vH p.2.1=true
 | [],_,p,hp=>by simp at hp
 | q :: l,h,p,hp=>by
  rw [wD] at h
  split at h
  ·rename_i h1 h2 h3
   rcases List.mem_cons.1 hp with rfl | hp
   ·exact ⟨Eq.mp Nat.blt_eq h1,h2⟩
   ·exact ln h p hp
  ·cases h
theorem z6:∀ {l:List Value},vH l=true -> ∀ {i:Nat} {v:Value},l[i]?=some v -> pl v=true
 | [],_,i,v,h=>by simp at h
 | x :: l,hp,i,v,h=>by
  rw [vH] at hp
  split at hp
  ·rename_i hx
   cases i with
   | zero=>simp at h;rw [<- h];exact hx
   | succ i=>exact z6 hp (by simpa using h)
  ·cases hp
theorem nX {tabs:List PB} {h:Nat} {p:PB} (e:tabs.find? (λ p=>p.1 == h)=some p):p ∈ tabs /\ p.1=h :=
 ⟨List.mem_of_find?_eq_some e,by simpa using List.find?_some e⟩
section
variable {tabs picks:List PB} {G:Nat} {F:HL} {w:World}
theorem KB (ht:wD G tabs=true) (hR:Rel (tabs.map m5++F) w):HR (wC tabs G) (wB tabs) F w:=by
 have key:∀ h b,bT (wB tabs) h=some b -> ∃ p,tabs.find? (λ p=>p.1 == h)=some p /\ b=.cells (fR p.2.1) (du undef p.2.1 0 .lf) p.2.2 1 true:=λ h b hb=>by
  rw [z0] at hb
  split at hb
  ·rename_i p hp;cases hb;exact ⟨p,hp,rfl⟩
  ·cases hb
 refine ⟨λ h b hb=>?_,λ h₁ h₂ b₁ b₂ r K₁ K₂ _ _ e1 e2=>?_,λ x hx=>hR.holds x (List.mem_append_right _ hx),λ h b r K hb e1 x hx=>?_⟩
 ·obtain ⟨p,hp,rfl⟩:=key h b hb
  obtain ⟨hm,rfl⟩:=nX hp
  obtain ⟨hlt,hpl⟩:=ln ht p hm
  refine ⟨p.1,p.2.1.length,.cells ⟨p.2.1⟩ p.2.2 (0,0),by simp only [wC,if_pos hlt,hp],?_,?_⟩
  ·exact hR.holds (m5 p) (List.mem_append_left _ (List.mem_map.2 ⟨p,hm,rfl⟩))
  ·refine ⟨rfl,by rw [dQ];exact Nat.le_refl _,rfl,λ i hi=>?_,λ _=>by simp⟩
   rw [dQ] at hi
   refine ⟨p.2.1[i],by simp [hi],?_⟩
   rw [kL hi]
   exact VRi.plain_refl _ (z6 hpl (List.getElem?_eq_getElem hi))
 ·unfold wC at e1 e2
  split at e1
  ·split at e2
   ·simp only [Option.some.injEq,Prod.mk.injEq] at e1 e2
    rw [e1.1,e2.1]
   ·cases e2
  ·cases e1
 ·obtain ⟨p,hp,rfl⟩:=key h b hb
  obtain ⟨hm,rfl⟩:=nX hp
  have hr:r=p.1:=by
   unfold wC at e1
   split at e1
   ·simp only [Option.some.injEq,Prod.mk.injEq] at e1;exact e1.1.symm
   ·cases e1
  intro e
  have hn:=hR.nodup
  rw [List.map_append,List.nodup_append] at hn
  exact hn.2.2 p.1 (by rw [List.map_map];exact List.mem_map.2 ⟨p,hm,rfl⟩) x.1 (List.mem_map.2 ⟨x,hx,rfl⟩) (by rw [e,hr])
def H4 (H:AH) (p:PB):Bool:=match bT H p.1 with
 | some (.cells n t ty ww _)=>match Nat.beq n (fR p.2.1),Nat.beq ty p.2.2,Nat.beq ww 1 with
  | true,true,true=>oS (gt t 0 n) p.2.1
  | _,_,_=>false
 | _=>false
def z7 (H:AH):List PB -> Bool
 | []=>true
 | p :: l=>match H4 H p with
  | true=>z7 H l
  | false=>false
theorem sL {H:AH}:∀ {l:List PB},z7 H l=true -> ∀ p ∈ l,H4 H p=true
 | [],_,p,hp=>by simp at hp
 | q :: l,h,p,hp=>by
  rw [z7] at h
  split at h
  ·rename_i h1
   rcases List.mem_cons.1 hp with rfl | hp
   ·exact h1
   ·exact sL h p hp
  ·cases h
theorem sM {H:AH}:∀ {l:List PB},zY H l=true -> ∀ p ∈ l,H3 H p=true
 | [],_,p,hp=>by simp at hp
 | q :: l,h,p,hp=>by
  rw [zY] at h
  split at h
  ·rename_i h1
   rcases List.mem_cons.1 hp with rfl | hp
   ·exact h1
   ·exact sM h p hp
  ·cases h
theorem LR.plain_eq {ν:Nu} {l l':List Value} (h:LR ν l l'):vH l=true -> l'=l:=by
 induction h with
 | nil=>intro _;rfl
 | @cons v v' l l' h _ ih =>
  intro hp
  rw [vH] at hp
  split at hp
  ·rename_i hv;rw [VRi.plain_eq h hv,ih hp]
  ·cases hp
theorem H5 {ν:Nu} {H:AH} (hH:HR ν H F w) {p:PB} (hc:H4 H p=true) (hp:vH p.2.1=true) (hν:ν p.1=some (p.1,p.2.1.length)):w.heap[p.1]?=some (m5 p).2.den /\ ∃ b,bT H p.1=some b:=by
 unfold H4 at hc
 split at hc
 case h_2=>cases hc
 rename_i n t ty ww ro hb
 split at hc
 case h_2=>cases hc
 rename_i e1 e2 e3
 have e1:=Nat.eq_of_beq_eq_true e1
 have e2:=Nat.eq_of_beq_eq_true e2
 have e3:=Nat.eq_of_beq_eq_true e3
 have e4:=zZ _ _ hc
 obtain ⟨c,ty',fz,g1,g2⟩:=hH.cells hb hν
 refine ⟨?_,_,hb⟩
 have hr:=jz g2.le g2.get n 0 (by omega)
 rw [e4] at hr
 have hl:=hr.plain_eq hp
 have hsz:=g2.gr (by omega)
 rw [e3,Nat.mul_one] at hsz
 rw [dQ] at e1
 rw [g1,g2.ty,g2.fz,e2]
 simp only [m5,Blk.den]
 congr 2
 apply Array.ext'
 rw [List.drop_zero] at hl
 rw [<- hl,List.take_of_length_le]
 have:c.toList.length=c.size:=rfl
 omega
theorem qG:∀ {l:List PB},(l.map (·.1)).Nodup -> ∀ {p q:PB},p ∈ l -> q ∈ l -> q.1=p.1 -> q=p
 | [],_,p,q,hp,_,_=>by simp at hp
 | x :: l,hd,p,q,hp,hq,e=>by
  simp only [List.map_cons,List.nodup_cons] at hd
  rcases List.mem_cons.1 hp with h1 | h1 <;> rcases List.mem_cons.1 hq with h2 | h2
  ·rw [h1,h2]
  ·exact absurd (List.mem_map.2 ⟨q,h2,by rw [e,h1]⟩) hd.1
  ·exact absurd (List.mem_map.2 ⟨p,h1,by rw [<- e,h2]⟩) hd.1
  ·exact qG hd.2 h1 h2 e
def KC (tabs picks:List PB) (v0:Value):Option Rs -> Bool
 | some (.fn v H _)=>match qW v v0,qE v0,z7 H tabs with
  | true,true,true=>zY H picks
  | _,_,_=>false
 | _=>false
theorem LR.plain_refl {ν:Nu}:∀ {l:List Value},vH l=true -> LR ν l l
 | [],_=>.nil
 | v :: l,h=>by
  rw [vH] at h
  split at h
  ·rename_i hv;exact .cons (VRi.plain_refl v hv) (LR.plain_refl h)
  ·cases h
theorem sN {P:Program} (hm:P.follows .mixedOrders=true) {k n0:Nat} {f:FuncId} {args:List Value} {v0:Value} (hG:Nat.ble G n0=true) (ht:wD G tabs=true) (ha:vH args=true)
  (hnd:(tabs.map (·.1)++picks.map (·.1)).Nodup) (hrun:KC tabs picks v0 (Fp P G k (.fn f args (wB tabs) n0))=true) :
  Sp P f ⟨args⟩ (tabs.map m5) F λ v' H'=>∃ ν rest,v'=ly ν v0 /\ H'=tabs.map m5++picks.map (qF ν rest):=by
 intro w hR
 have hG:=bK hG
 cases hres:Fp P G k (.fn f args (wB tabs) n0) with
 | none=>rw [hres] at hrun;cases hrun
 | some res=>cases res with
  | cd e s=>rw [hres] at hrun;cases hrun
  | fn v H n' =>
   rw [hres] at hrun
   simp only [KC] at hrun
   split at hrun
   case h_2=>cases hrun
   rename_i q1 q2 q3
   rw [zW] at hres
   obtain ⟨hn,hcall⟩:=zJ hm k _ _ hres
   have hlt:∀ p ∈ tabs,p.1 < G:=λ p hp=>(ln ht p hp).1
   refine (hcall (wC tabs G) F w args (λ k hk=>⟨_,if_pos hk⟩) (λ h h1 h2=>by simp only [wC];rw [if_neg (by omega)]) (KB ht hR) (LR.plain_refl ha)).mono ?_
   rintro e w' ⟨ν,v',rfl,hv,hext,hH,hbel⟩
   rw [yo _ _ q1] at hv
   have hνt:∀ p ∈ tabs,ν p.1=wC tabs G p.1:=λ p hp=>hext.out _ (.inl (by have:=hlt p hp;omega))
   have hfind:∀ p ∈ tabs,ν p.1=some (p.1,p.2.1.length):=λ p hp=>by
    rw [hνt p hp]
    simp only [wC,if_pos (hlt p hp)]
    congr 2
    have hd:(tabs.map (·.1)).Nodup:=(List.nodup_append.1 hnd).1
    cases hf:tabs.find? (λ q=>q.1 == p.1) with
    | none=>exact absurd (List.find?_eq_none.1 hf p hp) (by simp)
    | some q =>
     obtain ⟨hq,hq2⟩:=nX hf
     have:q=p:=qG hd hp hq hq2
     simp [this]
   have htab:∀ p ∈ tabs,w'.heap[p.1]?=some (m5 p).2.den /\ ∃ b,bT H p.1=some b:=λ p hp=>H5 hH (sL q3 p hp) (ln ht p hp).2 (hfind p hp)
   have hpk:∀ p ∈ picks,(∃ K,ν p.1=some (tV ν p.1,K)) /\ (∃ b,bT H p.1=some b) /\ w'.heap[tV ν p.1]?=some (qF ν (nW ν w') p).2.den:=λ p hp=>Ft hH (sM hrun p hp)
   refine ⟨v',tabs.map m5++picks.map (qF ν (nW ν w')),rfl,⟨ν,nW ν w',zX hv q2,rfl⟩,⟨?_,?_⟩,hbel⟩
   ·intro x hx
    rcases List.mem_append.1 hx with hx | hx
    ·rcases List.mem_append.1 hx with hx | hx
     ·obtain ⟨p,hp,rfl⟩:=List.mem_map.1 hx
      exact (htab p hp).1
     ·obtain ⟨p,hp,rfl⟩:=List.mem_map.1 hx
      exact (hpk p hp).2.2
    ·exact hH.frm x hx
   ·-- the handles' blocks
    have hall:∀ h ∈ tabs.map (·.1)++picks.map (·.1),∃ K b,ν h=some (tV ν h,K) /\ bT H h=some b:=λ h hh=>by
     rcases List.mem_append.1 hh with hh | hh
     ·obtain ⟨p,hp,rfl⟩:=List.mem_map.1 hh
      obtain ⟨b,hb⟩:=(htab p hp).2
      exact ⟨p.2.1.length,b,by simp [tV,hfind p hp],hb⟩
     ·obtain ⟨p,hp,rfl⟩:=List.mem_map.1 hh
      obtain ⟨⟨K,h1⟩,⟨b,hb⟩,-⟩:=hpk p hp
      exact ⟨K,b,h1,hb⟩
    have e1:(tabs.map m5++picks.map (qF ν (nW ν w'))).map (·.1)=(tabs.map (·.1)++picks.map (·.1)).map (tV ν):=by
     simp only [List.map_append,List.map_map]
     congr 1
     apply List.map_congr_left
     intro p hp
     simp [m5,tV,hfind p hp]
    rw [List.map_append,List.nodup_append,e1]
    refine ⟨?_,?_,λ a ha b hb=>?_⟩
    ·rw [List.Nodup,List.pairwise_map]
     refine (List.pairwise_iff_forall_sublist.2 λ {a b} hs=>?_)
     have ha':=hall a (hs.subset (by simp))
     have hb':=hall b (hs.subset (by simp))
     obtain ⟨K1,b1,x1,x2⟩:=ha'
     obtain ⟨K2,b2,y1,y2⟩:=hb'
     intro e
     have hab:a=b:=hH.inj _ _ _ _ _ _ _ x2 y2 x1 (by rw [e];exact y1)
     have:=hnd.sublist hs
     simp [hab] at this
    ·have:=hR.nodup
     rw [List.map_append,List.nodup_append] at this
     exact this.2.1
    ·obtain ⟨h,hh,rfl⟩:=List.mem_map.1 ha
     obtain ⟨x,hx,rfl⟩:=List.mem_map.1 hb
     obtain ⟨K,b,g1,g2⟩:=hall h hh
     exact (hH.apt _ _ _ _ g2 g1 x hx).symm
end
end
theorem Fu {P:Program} {f:FuncId} {args:Array Value} {x:Nat × Blk} {F:HL} {Q:Value -> HL -> Prop} (hx:x ∈ F) (h:∀ F0,Sp P f args [x] F0 λ u H'=>∃ Hp,Q u Hp /\ H'=[x]++Hp):Sp P f args [] F Q:=by
 obtain ⟨l1,l2,rfl⟩:=List.append_of_mem hx
 have hp:∀ H:HL,([x]++H++(l1++l2)).Perm (H++(l1++x :: l2)):=λ H=>by
  refine List.Perm.trans ?_ (List.Perm.append_left H List.perm_middle.symm)
  show (x :: (H++(l1++l2))).Perm (H++x :: (l1++l2))
  exact List.perm_middle.symm
 intro w hR
 have hR1:Rel ([x]++(l1++l2)) w:=hR.perm (by have:=hp [];simpa using this)
 refine (h (l1++l2) w hR1).mono ?_
 rintro e w' ⟨v,H',he,⟨Hp,hq,rfl⟩,hR',hb⟩
 exact ⟨v,Hp,he,hq,hR'.perm (hp Hp).symm,hb⟩
noncomputable section
def iv (x:Int):Value:=.int .i64 x
def tX:List Value:=[iv 0,iv 0,iv 0,iv 1,iv 0,iv 1,iv 1,iv 0,iv 1,iv 1,iv 2,iv 0,iv 0,iv 1,iv 0,iv 1,iv 0,iv 1,iv 2,iv 1,iv 2,iv 1,iv 2,iv 1,iv 2,iv 1,iv 1,iv 1,iv 2,iv 1,iv 2,iv 1,iv 2,iv 1,iv 1,iv 1,iv 0,iv 0,iv 1,iv 0,iv 2,iv 0,iv 0,iv 0]
def lJ:List PB:=[(0,tX,293)]
def Mc:String:="on tick { n = n + 1; if n >= 3 { effect 1, n; n = 0; } }"
def Md:String:="on act { vx[self] = vx[self] + 100 * other; effect 2, self; } on hit { a[self] = a[self] + 1; effect 3, other; }"
def Me:String:="on hit { if hit[other] == self + 1 && a[self] < a[other] { vx[self] = -vx[self]; b[self] = tick; } else { stop; } effect 4, a[self]; }"
def Mf:String:="on tick { i = 0; while i < 4 { b[i] = b[i] + still[i]; i = i + 1; } s = s + x[0] / 100; effect 5, s; } on act { s = 0; }"
def Mg:List Value:=[iv 2,iv 0,iv 1,iv 1,iv 9,iv 0,iv 3,iv 0,iv 1,iv 3,iv 2,iv 0,iv 15,iv 0,iv 19,iv 14,iv 1,iv 1,iv 2,iv 0,iv 20,iv 0,iv 1,iv 0,iv 3,iv 0,iv 18,iv 14,iv 21,iv 0]
def Mh:List Value:=[iv 6,iv 0,iv 6,iv 0,iv 4,iv 2,iv 1,iv 100,iv 7,iv 0,iv 11,iv 0,iv 9,iv 0,iv 5,iv 2,iv 1,iv 2,iv 6,iv 0,iv 20,iv 0,iv 21,iv 0,iv 6,iv 0,iv 6,iv 0,iv 4,iv 4,iv 1,iv 1,iv 9,iv 0,iv 5,iv 4,iv 1,iv 3,iv 7,iv 0,iv 20,iv 0,iv 21,iv 0]
def Mi:List Value:=[iv 7,iv 0,iv 4,iv 6,iv 6,iv 0,iv 1,iv 1,iv 9,iv 0,iv 16,iv 0,iv 19,iv 13,iv 6,iv 0,iv 4,iv 4,iv 7,iv 0,iv 4,iv 4,iv 14,iv 0,iv 18,iv 14,iv 1,iv 0,iv 19,iv 24,iv 6,iv 0,iv 6,iv 0,iv 4,iv 2,iv 13,iv 0,iv 5,iv 2,iv 6,iv 0,iv 8,iv 0,iv 5,iv 5,iv 18,iv 25,iv 21,iv 0,iv 1,iv 4,iv 6,iv 0,iv 4,iv 4,iv 20,iv 0,iv 21,iv 0]
def Mj:List Value:=[iv 1,iv 0,iv 3,iv 0,iv 21,iv 0,iv 1,iv 0,iv 3,iv 1,iv 2,iv 1,iv 1,iv 4,iv 14,iv 0,iv 19,iv 21,iv 2,iv 1,iv 2,iv 1,iv 4,iv 5,iv 2,iv 1,iv 4,iv 7,iv 9,iv 0,iv 5,iv 5,iv 2,iv 1,iv 1,iv 1,iv 9,iv 0,iv 3,iv 1,iv 18,iv 5,iv 2,iv 0,iv 1,iv 0,iv 4,iv 0,iv 1,iv 100,iv 12,iv 0,iv 9,iv 0,iv 3,iv 0,iv 1,iv 5,iv 2,iv 0,iv 20,iv 0,iv 21,iv 0]
def Cb (h len:Nat) (a b c:Int):Value:=.tuple ⟨[.agg ⟨[.slice (some ⟨h,0,none⟩) len kZ,iv a,iv b,iv c]⟩,iv 0]⟩
def NN:Value:=.tuple ⟨[.agg ⟨[.slice none 0 0,iv (-1),iv (-1),iv (-1)]⟩,iv 0]⟩
def sO (src:String) (picks:List PB) (v:Value):Bool:=KC lJ picks v (Fp Tryz.prog 3 100000 (.fn 78 [.string src.toUTF8] (wB lJ) 3))
theorem mixed:Tryz.prog.follows .mixedOrders=true:=by kernel_rfl
theorem po {src:String} {h:Nat} {cod:List Value} {ty:TypeId} {v:Value} {F:HL} (hh:h ≠ 0) (hq:sO src [(h,cod,ty)] v=true) :
  Sp Tryz.prog 78 #[.string src.toUTF8] (lJ.map m5) F λ v' H'=>∃ ν rest,v'=ly ν v /\ H'=lJ.map m5++[qF ν rest (h,cod,ty)] :=
 sN (G:=3) (tabs:=lJ) (picks:=[(h,cod,ty)]) mixed rfl rfl rfl (by simp [lJ,hh.symm]) hq
theorem H6:sO "" [] NN=true:=by kernel_rfl
end
theorem H7:sO Mc [(1095,Mg,206)] (Cb 1095 15 (-1) 0 (-1))=true:=by kernel_rfl
theorem H8:sO Md [(1804,Mh,206)] (Cb 1804 22 0 (-1) 12)=true:=by kernel_rfl
theorem H9:sO Me [(2348,Mi,206)] (Cb 2348 30 (-1) (-1) 0)=true:=by kernel_rfl
theorem Ib:sO Mf [(2279,Mj,206)] (Cb 2279 32 0 3 (-1))=true:=by kernel_rfl
noncomputable section
def m6:Nat -> ByteArray
 | 0=>"".toUTF8
 | 1=>Mc.toUTF8
 | 2=>Md.toUTF8
 | 3=>Me.toUTF8
 | _=>Mf.toUTF8
def Ic:Nat -> List Value
 | 0=>[]
 | 1=>Mg
 | 2=>Mh
 | 3=>Mi
 | _=>Mj
def fG:Nat -> Nat
 | 0=>0
 | 1=>15
 | 2=>22
 | 3=>30
 | _=>32
def Ie:Nat -> List Value
 | 0=>[iv (-1),iv (-1),iv (-1)]
 | 1=>[iv (-1),iv 0,iv (-1)]
 | 2=>[iv 0,iv (-1),iv 12]
 | 3=>[iv (-1),iv (-1),iv 0]
 | _=>[iv 0,iv 3,iv (-1)]
inductive PrgV (j:Nat):Value -> HL -> Prop
 | nil:j=0 -> PrgV j (.slice none 0 0) []
 | some (b cap:Nat) (rest:List Value):PrgV j (.slice (some ⟨b,0,none⟩) (fG j) cap) [(b,.lit (Ic j++rest) 206 (0,0))]
theorem lq (ν:Nu) (h len:Nat) (a b c:Int):ly ν (Cb h len a b c)=.tuple ⟨[.agg ⟨[.slice (some ⟨tV ν h,0,none⟩) len (NM ν h kZ),iv a,iv b,iv c]⟩,iv 0]⟩:=by
 simp only [Cb,ly,Fq,Fs,iv]
theorem Fv {j:Nat} (hj:j < 5) {F:HL}:Sp Tryz.prog 78 #[.string (m6 j)] (lJ.map m5) F λ u H'=>∃ s Hp,PrgV j s Hp /\ u=.tuple ⟨[.agg ⟨s :: Ie j⟩,iv 0]⟩ /\ H'=lJ.map m5++Hp:=by
 match j,hj with
 | 0,_ =>
  refine (sN (G:=3) (tabs:=lJ) (picks:=[]) mixed rfl rfl rfl (by simp [lJ]) H6).mono ?_
  rintro u H' ⟨ν,rest,rfl,rfl⟩
  exact ⟨_,[],.nil rfl,rfl,rfl⟩
 | 1,_ =>
  refine (po (by decide) H7).mono ?_
  rintro u H' ⟨ν,rest,rfl,rfl⟩
  exact ⟨_,_,.some _ _ _,lq ..,rfl⟩
 | 2,_ =>
  refine (po (by decide) H8).mono ?_
  rintro u H' ⟨ν,rest,rfl,rfl⟩
  exact ⟨_,_,.some _ _ _,lq ..,rfl⟩
 | 3,_ =>
  refine (po (by decide) H9).mono ?_
  rintro u H' ⟨ν,rest,rfl,rfl⟩
  exact ⟨_,_,.some _ _ _,lq ..,rfl⟩
 | 4,_ =>
  refine (po (by decide) Ib).mono ?_
  rintro u H' ⟨ν,rest,rfl,rfl⟩
  exact ⟨_,_,.some _ _ _,lq ..,rfl⟩
theorem Ig {j:Nat} (hj:j < 5) {F:HL} (hF:(0,Blk.lit tX 293 (0,0)) ∈ F):Sp Tryz.prog 78 #[.string (m6 j)] [] F λ u H'=>∃ s,PrgV j s H' /\ u=.tuple ⟨[.agg ⟨s :: Ie j⟩,iv 0]⟩ :=
 Fu hF λ F0=>(Fv hj).mono λ u H' ⟨s,Hp,h1,h2,h3⟩=>⟨Hp,⟨s,h1,h2⟩,h3⟩
end
def b9 (j k:Nat):Int:=match (Ie j)[k]? with | some (.int _ x)=>x | _=>0
def Jf:List Value -> List Ins
 | .int _ a :: .int _ b :: r=>⟨a,b⟩ :: Jf r
 | _=>[]
def jW (j:Nat):List Ins:=Jf (Ic j)
theorem wE:∀ {j:Nat},j < 5 -> (jW j).length=fG j
 | 0,_=>by kernel_rfl
 | 1,_=>by kernel_rfl
 | 2,_=>by kernel_rfl
 | 3,_=>by kernel_rfl
 | 4,_=>by kernel_rfl
 | j+5,h=>absurd h (by omega)
theorem yu:∀ {j:Nat},j < 5 -> Ic j=aB kj (jW j)
 | 0,_=>by kernel_rfl
 | 1,_=>by kernel_rfl
 | 2,_=>by kernel_rfl
 | 3,_=>by kernel_rfl
 | 4,_=>by kernel_rfl
 | j+5,h=>absurd h (by omega)
theorem tY:∀ {j:Nat},j < 5 -> fG j <= 32
 | 0,_=>by decide
 | 1,_=>by decide
 | 2,_=>by decide
 | 3,_=>by decide
 | 4,_=>by decide
 | j+5,h=>absurd h (by omega)
theorem Ii:∀ {j:Nat},j < 5 -> Ie j=[vI (b9 j 0),vI (b9 j 1),vI (b9 j 2)]
 | 0,_=>by kernel_rfl
 | 1,_=>by kernel_rfl
 | 2,_=>by kernel_rfl
 | 3,_=>by kernel_rfl
 | 4,_=>by kernel_rfl
 | j+5,h=>absurd h (by omega)
abbrev lK (F:HL):Prop:=(0,Blk.lit tX 293 (0,0)) ∈ F
def Fw (j:Nat) (A:Option Addr) (T:HL):Prop:=∀ F,(∀ x ∈ T,x ∈ F) -> SrcIn Tryz.prog kj F A (fG j) (jW j)
theorem Fx {j:Nat} (hj:j < 5) (F:HL) (hE:lK F):Sp Tryz.prog 78 #[.string (m6 j)] (ap [] []) F (λ u H'=>∃ x:Option Addr × Nat × HL,H'=ap [] [x.2.2] /\ (u=.tuple #[.agg #[.slice x.1 (fG j) x.2.1,vI (b9 j 0),vI (b9 j 1),vI (b9 j 2)],vI 0] /\ Fw j x.1 x.2.2)):=by
 refine (Ig hj hE).mono ?_
 rintro u H' ⟨s,hp,rfl⟩
 rw [Ii hj]
 cases hp with
 | nil h0 =>
  subst h0
  exact ⟨(none,0,[]),(bF _).symm,rfl,λ F hF=>SrcIn.none⟩
 | some b cap rest =>
  refine ⟨(some ⟨b,0,none⟩,cap,[(b,.lit (Ic j++rest) 206 (0,0))]),(bF _).symm,rfl,λ F hF=>?_⟩
  have h:=SrcIn.lit Dg (xs:=jW j) (rest:=rest) (ty:=206) (fz:=(0,0)) (F:=F) (q:=b) (by rw [<- yu hj];exact hF _ (List.mem_singleton.2 rfl))
  rw [wE hj] at h
  exact h
inductive Book1 (j bp:Nat):HL -> Prop
 | mk (q:Nat) (A:Option Addr) (c:Nat) (T:HL) (h:Fw j A T):Book1 j bp (ap [(bp,.lit [vS q 0 1 1] 162 (0,0)),(q,.lit [vI 0,.slice A (fG j) c,vI (b9 j 0),vI (b9 j 1),vI (b9 j 2)] 159 (0,0))] [T])
def KD:List Value:=[.string ⟨#[]⟩,.string ⟨#[111,110,32,116,105,99,107,32,123,32,110,32,61,32,110,32,43,32,49,59,32,105,102,32,110,32,62,61,32,51,32,123,32,101,102,102,101,99,116,32,49,44,32,110,59,32,110,32,61,32,48,59,32,125,32,125]⟩,.string ⟨#[111,110,32,97,99,116,32,123,32,118,120,91,115,101,108,102,93,32,61,32,118,120,91,115,101,108,102,93,32,43,32,49,48,48,32,42,32,111,116,104,101,114,59,32,101,102,102,101,99,116,32,50,44,32,115,101,108,102,59,32,125,32,111,110,32,104,105,116,32,123,32,97,91,115,101,108,102,93,32,61,32,97,91,115,101,108,102,93,32,43,32,49,59,32,101,102,102,101,99,116,32,51,44,32,111,116,104,101,114,59,32,125]⟩,.string ⟨#[111,110,32,104,105,116,32,123,32,105,102,32,104,105,116,91,111,116,104,101,114,93,32,61,61,32,115,101,108,102,32,43,32,49,32,38,38,32,97,91,115,101,108,102,93,32,60,32,97,91,111,116,104,101,114,93,32,123,32,118,120,91,115,101,108,102,93,32,61,32,45,118,120,91,115,101,108,102,93,59,32,98,91,115,101,108,102,93,32,61,32,116,105,99,107,59,32,125,32,101,108,115,101,32,123,32,115,116,111,112,59,32,125,32,101,102,102,101,99,116,32,52,44,32,97,91,115,101,108,102,93,59,32,125]⟩,.string ⟨#[111,110,32,116,105,99,107,32,123,32,105,32,61,32,48,59,32,119,104,105,108,101,32,105,32,60,32,52,32,123,32,98,91,105,93,32,61,32,98,91,105,93,32,43,32,115,116,105,108,108,91,105,93,59,32,105,32,61,32,105,32,43,32,49,59,32,125,32,115,32,61,32,115,32,43,32,120,91,48,93,32,47,32,49,48,48,59,32,101,102,102,101,99,116,32,53,44,32,115,59,32,125,32,111,110,32,97,99,116,32,123,32,115,32,61,32,48,59,32,125]⟩]
def KE:Nat -> Nat -> Value:=λ i k=>match k with | 0=>.string (m6 i) | _=>default
theorem wF (F:HL):Sp Tryz.prog 79 #[] [] F (λ u H'=>∃ q:Nat,H'=ap [(q,.lit KD 9 (0,0))] [] /\ u=vS q 0 5 5):=by
 refine Sp.run Tryz.func79 rfl mn (A:=[]) (Ts:=[]) rfl λ w0=>?_
 refine ae 11 [] λ n1=>RN.ret [] [0] [] (v:=vS (n1+0) 0 5 5) (H':=(ap [((n1+0),.lit KD 9 (0,0))] [])) ?_
 exact ⟨_,rfl,rfl⟩
theorem yv (F:HL):Sp Tryz.prog 79 #[] (ap [] []) F (λ u H'=>∃ q:Nat,H'=ap [(q,.lit KD 9 (0,0))] [] /\ u=vS q 0 5 5):=wF F
theorem qH (n:Int) (F:HL) (hn:kC n):Sp Tryz.prog 39 #[vI n] [] F (λ u H'=>u=.string (m6 (av n 5).toNat) /\ H'=[]):=by
 refine Sp.run Tryz.func39 rfl mn (A:=[]) (Ts:=[]) rfl λ w0=>?_
 refine ae 7 [] λ _=>RN.ct (Hp:=[]) (Tp:=[]) [] [] (yv _) ?_
 rintro _ q1 rfl
 refine ae 1 [] λ _=>ai (fl n 5 (by decide) _) ?_
 have hA2:=bq (n:=n) hn 5 (by decide)
 refine RN.dn 0 (.rows 1 5 KE 9 (0,0))<|ak 5 [.ix ((av n 5).toNat),.row 0 ((av n 5).toNat) 0] [(0+((av n 5).toNat) * 1)=((av n 5).toNat) * 1+0 /\ ((av n 5).toNat) < 5,av n 5=(((av n 5).toNat:Nat):Int) /\ (av n 5).toNat < 5] λ _=>?_
 exact RN.ret [] [] [] ⟨rfl,rfl⟩
theorem Fy (j:Nat) (F:HL) (hj:j < 5) (hE:lK F):Sp Tryz.prog 38 #[.string (m6 j)] [] F (λ u H'=>∃ x:Nat × HL,H'=ap [] [x.2] /\ (u=.tuple #[vP x.1 0,vI 0] /\ Book1 j x.1 x.2)):=by
 refine Sp.run Tryz.func38 rfl mn (A:=[]) (Ts:=[]) rfl λ w0=>?_
 refine ae 9 [] λ _=>RN.ct (Hp:=[]) (Tp:=[]) [] [] (Fx hj _ (aw hE)) ?_
 rintro _ ⟨A1,c2,T3⟩ ⟨rfl,hC4⟩
 dsimp only at hC4
 refine ae 29 (ow 0 8) λ n5=>RN.ret [] [0,1] [0] (v:=.tuple #[vP (n5+2) 0,vI 0]) (H':=(ap [((n5+2),.lit [vS (n5+1) 0 1 1] 162 (0,0)),((n5+1),.lit [vI 0,.slice A1 (fG j) c2,vI (b9 j 0),vI (b9 j 1),vI (b9 j 2)] 159 (0,0))] [T3])) ?_
 exact ⟨((n5+2),ap [((n5+2),.lit [vS (n5+1) 0 1 1] 162 (0,0)),((n5+1),.lit [vI 0,.slice A1 (fG j) c2,vI (b9 j 0),vI (b9 j 1),vI (b9 j 2)] 159 (0,0))] [T3]),by simp [ap],rfl,.mk _ _ _ _ hC4⟩
theorem Fz (j:Nat) (F:HL) (hj:j < 5) (hE:lK F):Sp Tryz.prog 38 #[.string (m6 j)] (ap [] []) F (λ u H'=>∃ x:Nat × HL,H'=ap [] [x.2] /\ (u=.tuple #[vP x.1 0,vI 0] /\ Book1 j x.1 x.2)):=Fy j F hj hE
open Go.Shelf
def SpD (P:Program) (f:FuncId) (args:Array Value) (H F:HL) (R:Value -> HL -> Prop):Prop :=
 ∀ w,Rel (H++F) w -> CallsDIn (Wr none) 0 P f args .returning w λ e u' w'=>u'=.returning /\ ∃ v H',e=.returned v /\ R v H' /\ Rel (H'++F) w' /\ Below 0 w w'
theorem SpD.mono {P:Program} {f:FuncId} {args:Array Value} {H F:HL} {R R':Value -> HL -> Prop} (h:SpD P f args H F R) (hr:∀ v H',R v H' -> R' v H'):SpD P f args H F R' :=
 λ w hR=>(h w hR).mono λ e u' w' ⟨h0,v,H',h1,h2,h3,h4⟩=>⟨h0,v,H',h1,hr _ _ h2,h3,h4⟩
section
variable {r:Option Nat} {P:Program} {N:Nat} {D:List Deferred} {F:HL} {w0:World} {R:HL} {s:Cfg} {Q:Exit -> Act -> World -> Prop}
def dfR (N:Nat) (s:Cfg):Option (FuncId × Array Value × Array Value):=match rd s with
 | some o=>match o.guard,o.op,(fe N o.dst undef s.L).isSome with
  | none,.defer c,true=>match c.callee with
   | .value f=>match mu s.L f && c.args.toList.all (mu s.L) with
    | true=>match iT s.L f with
     | .func (.func g) first cap=>some (g,first++c.args.map (iT s.L),cap)
     | _=>none
    | false=>none
   | _=>none
  | _,_,_=>none
 | none=>none
abbrev Ml (g:FuncId) (args cap:Array Value):Deferred:={ target:=.fn (.func g) cap,args:=args }
theorem z8 {L:FL} {a:Act} (hF:Fm N D L a):∀ (l:List Operand),l.all (mu L)=true -> l.map a.eval=l.map (iT L)
 | [],_=>rfl
 | x :: l,h=>by
  rw [List.all_cons,Bool.and_eq_true] at h
  rw [List.map_cons,List.map_cons,hF.eval h.1,z8 hF l h.2]
theorem Mm {g:FuncId} {args cap:Array Value} (hk:RN none P N (Ml g args cap :: D) F w0 R (fI N undef s) Q) (h:dfR N s=some (g,args,cap):=by kernel_rfl):RN none P N D F w0 R s Q:=by
 refine ⟨λ hR a w hF hRel hB=>?_⟩
 obtain ⟨cc,kk,L,A,Ts⟩:=s
 unfold dfR at h
 split at h
 case h_2=>cases h
 rename_i o q0
 split at h
 case h_2=>cases h
 rename_i c q1 q2 q3
 split at h
 case h_2=>cases h
 rename_i f q4
 split at h
 case h_2=>cases h
 rename_i q5
 split at h
 case h_2=>cases h
 rename_i g' first cap' q6
 simp only [Option.some.injEq,Prod.mk.injEq] at h
 obtain ⟨e1,e2,e3⟩:=h
 subst e1;subst e2;subst e3
 unfold rd at q0
 cases cc with
 | code c=>cases q0
 | ex c=>cases q0
 | drw _ _=>cases q0
 | ops ops j =>
  simp only at q0 q3 q5 q6 hF hRel
  have hdrop:ops.toList.drop j=o :: ops.toList.drop (j+1):=by
   have hlt:j < ops.toList.length:=(List.getElem?_eq_some_iff.1 q0).1
   rw [List.drop_eq_getElem_cons hlt,(List.getElem?_eq_some_iff.1 q0).2]
  show wpListIn _ _ _ _ _ _ _ _
  rw [hdrop,wpListIn,if_pos (by simp [Region.wanted,q1])]
  refine ⟨λ _ _=>trivial,?_⟩
  rw [Bool.and_eq_true] at q5
  obtain ⟨L',hl⟩:=eS q3 undef
  have hpc:fI N undef ⟨.ops ops j,kk,L,A,Ts⟩=⟨.ops ops (j+1),kk,L',A,Ts⟩:=by
   unfold fI
   simp only [q0,hl]
  have hh:=hk.h hR
  rw [hpc] at hh
  have hargs:c.args.map a.eval=c.args.map (iT L):=by
   apply Array.ext'
   rw [Array.toList_map,Array.toList_map]
   exact z8 hF _ q5.2
  have e1:a.eval f=.func (.func g') first cap':=(hF.eval q5.1).trans q6
  have hex:(o.semAt (Wr none).round a.eval).run P w=.ok (.defer (Ml g' (first++c.args.map (iT L)) cap')) w:=by
   show (Oper.semAt none a.eval o).run P w=_
   rw [Oper.semAt_none]
   simp only [execOp,q2,resolve,q4,e1,Deferred.ofValue,Sem.run_bind,hargs]
   rfl
  rw [hex,Oper.uponIn_defer]
  have hF':Fm N (Ml g' (first++c.args.map (iT L)) cap' :: D) L { a with defers:=Ml g' (first++c.args.map (iT L)) cap' :: a.defers }:=⟨hF.size,by rw [<- hF.defs],hF.has⟩
  exact hh _ w (hF'.put hl) hRel hB
structure LV (P:Program) (N:Nat) (D:List Deferred) (F:HL) (w0:World) (R:HL) (fn:Func) (R':Value -> HL -> Prop) (s:Cfg):Prop where
 h:(∀ y ∈ R,y ∈ F) -> ∀ a w,Fm N D s.L a -> Rel (ap s.A s.Ts++F) w -> Below 0 w0 w -> LeavesInM (Wr none) 0 P fn a.tmps (yU F w0 R') a.defers .returning w
theorem Jg {fn:Func} {R':Value -> HL -> Prop} (hk:LV P N D F w0 R fn R' s) (hc:lV s=true:=by kernel_rfl):RN none P N D F w0 R s (bodyPostM (Wr none) 0 P fn (yU F w0 R')):=by
 refine ⟨λ hR a w hF hRel hB=>?_⟩
 have key:=hk.h hR a w hF hRel hB
 exact nq hc key key
def Mn (ip jp:List Nat) (Hq:HL) (Tq:List HL) (s:Cfg):Cfg:=us (λ A=>Hq++(oth ip A.length).filterMap (A[·]?)) (λ Ts=>Tq++(oth jp Ts.length).filterMap (Ts[·]?)) s
theorem Mo {τ:Type} {fn:Func} {R':Value -> HL -> Prop} {g:FuncId} {args cap:Array Value} (eg:∀ args w,(callFunc g args).run P w=.ok (.enter g args) w) (ip jp:List Nat) {Hp:HL} {Tp:List HL} {Hq:τ -> HL} {Tq:τ -> List HL} {Rv:Value -> τ -> Prop}
  (hc:SpD P g (args++cap) (ap Hp Tp) (ap (eE ip s) (fw jp s)++F) (λ v H'=>∃ x,H'=ap (Hq x) (Tq x) /\ Rv v x)) (hk:∀ v x,Rv v x -> LV P N D F w0 R fn R' (Mn ip jp (Hq x) (Tq x) s))
  (hp:b8 ip jp s=true:=by kernel_rfl) (hH:picks ip jp s=(Hp,Tp):=by kernel_rfl):LV P N (Ml g args cap :: D) F w0 R fn R' s:=by
 unfold b8 at hp
 unfold picks at hH
 rw [Bool.and_eq_true] at hp
 simp only [Prod.mk.injEq] at hH
 obtain ⟨e1,e2⟩:=hH
 refine ⟨λ hR a w hF hRel hB=>?_⟩
 have hperm:(ap Hp Tp++ap (eE ip s) (fw jp s)).Perm (ap s.A s.Ts):=by
  have h1:=kT s.A s.Ts ip (oth ip s.A.length) jp (oth jp s.Ts.length) hp.1 hp.2
  rw [e1,e2] at h1
  exact h1
 have hR1:Rel (ap Hp Tp++(ap (eE ip s) (fw jp s)++F)) w:=by rw [<- List.append_assoc];exact hRel.perm (hperm.append_right F)
 rw [hF.defs]
 refine ⟨by simp,.inr ⟨(λ h=>by cases h),.func g,cap,g,args++cap,rfl,?_,λ _ _=>trivial,?_⟩⟩
 ·show (callFunc g (args++cap)).run P w=_
  exact eg _ _
 ·refine (hc w hR1).mono ?_
  rintro e u' w' ⟨rfl,v,H',rfl,⟨x,rfl,hv⟩,hR2,hB2⟩
  have:=(hk v x hv).h hR { a with defers:=D } w' ⟨hF.size,rfl,hF.has⟩ ?_ (hB.trans hB2)
  ·exact this
  ·unfold Mn
   rw [oY.1,oY.2.1]
   refine hR2.perm ?_
   exact (sW _ _ _ _ _).symm
theorem Ij {fn:Func} {R':Value -> HL -> Prop} (hints:List Hint) (Ob:List Prop) (hob:AllP Ob) (ip jp:List Nat) {v:Value} {H':HL} (hv:R' v H')
  (h:∀ n0,jh P n0 fn.results.toList R hints s=some (v,mE (jh P n0 fn.results.toList R hints s),mE (jh P n0 fn.results.toList R hints s),Ob):=by intro n0;kernel_rfl)
  (hp:b8 ip jp s=true:=by kernel_rfl) (hH:ap (picks ip jp s).1 (picks ip jp s).2=H':=by kernel_rfl):LV P N [] F w0 R fn R' s:=by
 unfold b8 at hp
 unfold picks at hH
 refine ⟨λ hR a w hF hRel hB=>?_⟩
 rw [Bool.and_eq_true] at hp
 have h':=h w.heap.size
 unfold jh xd at h'
 split at h'
 case h_2=>cases h'
 rename_i vs ss hs
 split at h'
 case h_2=>cases h'
 simp only [mE,Option.some.injEq,Prod.mk.injEq] at h'
 obtain ⟨e1,-,e3,e4⟩:=h'
 have hrun:=jf (P:=P) hF hRel fn.results.toList _ _ _ hs rfl rfl hR (λ e=>by cases e) (fA rfl e3) (by rw [e4];exact AllP.mem hob)
 subst e1
 rw [hF.defs]
 exact ⟨_,iB (by simp) hrun,_,H',rfl,hv,hRel.takeT ip _ jp _ hp.1 hp.2 hH,hB⟩
theorem LV.ret {fn:Func} {R':Value -> HL -> Prop} (hints:List Hint) (ip jp:List Nat) {v:Value} {H':HL} (hv:R' v H')
 (h:∀ n0,jh P n0 fn.results.toList R hints s=some (v,mE (jh P n0 fn.results.toList R hints s),mE (jh P n0 fn.results.toList R hints s),[]):=by intro n0;kernel_rfl)
 (hp:b8 ip jp s=true:=by kernel_rfl) (hH:ap (picks ip jp s).1 (picks ip jp s).2=H':=by kernel_rfl):LV P N [] F w0 R fn R' s:=Ij hints [] trivial ip jp hv h hp hH
end
end Go.Proofs.YtcfajdgeejeieaaGreatDoor
