import Derived.Test.YtgdcbiiopbpgaaaGreatDoorR13
import Derived.Test.YtgdcbiiopbpgaaaGreatDoorProg
import Derived.Test.YtgdcbiiopbpgaaaGreatDoorR08
import Derived.Test.YtgdcbiiopbpgaaaGreatDoorR03
import Derived.RecoverIn
import Derived.Test.YtgdcbiiopbpgaaaGreatDoorR06
set_option maxHeartbeats 4000000
set_option maxRecDepth 100000
set_option linter.unusedSimpArgs false
set_option linter.unusedVariables false
namespace Go.Proofs.YtgdcbiiopbpgaaaGreatDoor
open Go.RowKit
noncomputable section
def vl(ν:Nu)(h:Nat):Nat:=match ν h with
 | some (b,_)=>b
 | none=>0
def Qy(ν:Nu)(h c:Nat):Nat:=match Nat.blt c lU with
 | true=>c
 | false=>match ν h with
  | some (_,K)=>K-(c-lU)
  | none=>0
mutual
def mt(ν:Nu):Value -> Value
 | .pointer (some a)=>.pointer (some ⟨vl ν a.block,a.off,none⟩)
 | .slice (some a) n c=>.slice (some ⟨vl ν a.block,a.off,none⟩) n (Qy ν a.block c)
 | .map (some h)=>.map (some (vl ν h))
 | .iface t v=>.iface t (mt ν v)
 | .agg c=>.agg (Hh ν c)
 | .tuple c=>.tuple (Hh ν c)
 | v=>v
def Hh(ν:Nu):Array Value -> Array Value
 | ⟨l⟩=>⟨Hj ν l⟩
def Hj(ν:Nu):List Value -> List Value
 | []=>[]
 | v::l=>mt ν v::Hj ν l
end
mutual
def rO:Value -> Bool
 | .iface _ v=>rO v
 | .func f a c=>pl (.func f a c)
 | .agg c=>PS c
 | .tuple c=>PS c
 | .chan _=>false
 | _=>true
def PS:Array Value -> Bool
 | ⟨l⟩=>M3 l
def M3:List Value -> Bool
 | []=>true
 | v::l=>match rO v with
  | true=>M3 l
  | false=>false
end
theorem vn{ν:Nu}:∀ {l l':List Value},l.length=l'.length -> (∀ (i:Nat) (v v':Value),l[i]?=some v -> l'[i]?=some v' -> rO v=true -> v'=mt ν v) -> M3 l=true -> l'=Hj ν l
 | [],[],_,_,_=>rfl
 | [],_::_,e,_,_=>by simp at e
 | _::_,[],e,_,_=>by simp at e
 | v::l,v'::l',e,h,ho=>by
  rw[M3] at ho
  cases hv:rO v with
  | false=>rw[hv] at ho;cases ho
  | true =>
   rw[hv] at ho
   have a1:=h 0 v v' rfl rfl hv
   have a2:=vn (l:=l) (l':=l') (by simpa using e) (λ i a b h1 h2=>h (i+1) a b (by simpa using h1) (by simpa using h2)) ho
   rw[Hj,<- a1,<- a2]
theorem BU{ν:Nu}{v v':Value}(h:VRi ν v v'):rO v=true -> v'=mt ν v:=by
 induction h with
 | atom v h =>
  intro _
  cases v with
  | pointer a=>cases a with
   | none=>rfl
   | some a=>simp[cB] at h
  | slice a n c=>cases a with
   | none=>rfl
   | some a=>simp[cB] at h
  | map r=>cases r with
   | none=>rfl
   | some r=>simp[cB] at h
  | iface t v=>simp[cB] at h
  | agg c=>simp[cB] at h
  | tuple c=>simp[cB] at h
  | _=>rfl
 | ptr o h=>intro _;simp[mt,vl,h]
 | @slice hd b K c c' o n h hc =>
  intro _
  simp only[mt,vl,Qy,h]
  congr 1
  cases hb:Nat.blt c lU with
  | true=>exact hc.1 (Eq.mp Nat.blt_eq hb)
  | false =>
   have h2:=hc.2 (kU hb)
   simp only
   omega
 | map h=>intro _;simp[mt,vl,h]
 | func hf e1 h1 e2 h2 _ _ =>
  intro ho
  have:=VRi.plain_eq (VRi.func hf e1 h1 e2 h2) (by simpa only[rO] using ho)
  rw[this];rfl
 | iface t _ ih=>intro ho;rw[mt,<- ih (by simpa only[rO] using ho)]
 | @agg c c' e _ ih =>
  intro ho
  obtain⟨l⟩:=c
  obtain⟨l'⟩:=c'
  simp only[List.getElem?_toArray] at ih
  rw[mt,Hh,vn (l:=l) (l':=l') e ih (by simpa only[rO,PS] using ho)]
 | @tuple c c' e _ ih =>
  intro ho
  obtain⟨l⟩:=c
  obtain⟨l'⟩:=c'
  simp only[List.getElem?_toArray] at ih
  rw[mt,Hh,vn (l:=l) (l':=l') e ih (by simpa only[rO,PS] using ho)]
theorem Kn{ν:Nu}{l l':List Value}(h:LR ν l l'):M3 l=true -> l'=l.map (mt ν):=by
 induction h with
 | nil=>intro _;rfl
 | @cons v v' l l' h _ ih =>
  intro ho
  rw[M3] at ho
  cases hv:rO v with
  | false=>rw[hv] at ho;cases ho
  | true =>
   rw[hv] at ho
   rw[List.map_cons,BU h hv,ih ho]
abbrev PB:=Nat × List Value × TypeId
def Ko(H:AH)(p:PB):Bool:=match bL H p.1 with
 | some (.cells n t ty _ _)=>match Nat.beq n (gt p.2.1),Nat.beq ty p.2.2 with
  | true,true=>match pZ (gL t 0 n) p.2.1 with
   | true=>M3 p.2.1
   | false=>false
  | _,_=>false
 | _=>false
def BV(H:AH):List PB -> Bool
 | []=>true
 | p::l=>match Ko H p with
  | true=>BV H l
  | false=>false
def o9(ν:Nu)(w:World)(p:PB):List Value:=match w.heap[vl ν p.1]? with
 | some (.cells c _ _)=>c.toList.drop p.2.1.length
 | _=>[]
def rP(ν:Nu)(rest:PB -> List Value)(p:PB):Nat × Blk:=(vl ν p.1,.lit (p.2.1.map (mt ν)++rest p) p.2.2 (0,0))
theorem BW(l l':List Value)(h:pZ l l'=true):l=l':=by
 induction l generalizing l' with
 | nil=>cases l' with
  | nil=>rfl
  | cons v l'=>simp[pZ] at h
 | cons v l ih=>cases l' with
  | nil=>simp[pZ] at h
  | cons v' l' =>
   rw[pZ] at h
   cases hv:sx v v' with
   | false=>rw[hv] at h;cases h
   | true=>rw[hv] at h;rw[zV _ _ hv,ih _ h]
theorem Hk{ν:Nu}{H:AH}{F:HL}{w:World}(hH:HR ν H F w){p:PB}(hc:Ko H p=true) :
  (∃K,ν p.1=some (vl ν p.1,K)) /\ (∃b,bL H p.1=some b) /\ w.heap[vl ν p.1]?=some (rP ν (o9 ν w) p).2.den:=by
 unfold Ko at hc
 split at hc
 case h_2=>cases hc
 rename_i n t ty ww ro hb
 split at hc
 case h_2=>cases hc
 rename_i e1 e2
 have e1:=Nat.eq_of_beq_eq_true e1
 have e2:=Nat.eq_of_beq_eq_true e2
 split at hc
 case h_2=>cases hc
 rename_i e3
 have e3:=BW _ _ e3
 obtain⟨r,K,o,h1,h2,h3⟩:=hH.blk _ _ hb
 have hn:vl ν p.1=r:=by simp[vl,h1]
 have hcc:=hH.cells hb h1
 obtain⟨c,ty',fz,g1,g2⟩:=hcc
 refine⟨⟨K,by rw[hn];exact h1⟩,⟨_,hb⟩,?_⟩
 rw[hn,g1]
 have hr:=j6 g2.le g2.get n 0 (by omega)
 rw[e3] at hr
 have hl:=Kn hr hc
 rw[d9] at e1
 simp only[rP,Blk.den,o9,hn,g1,g2.ty,g2.fz,<- e2]
 congr 2
 apply Array.ext'
 simp only
 rw[<- hl,List.drop_zero,<- e1,List.take_append_drop]
def xR:List PB -> AH
 | []=>.lf
 | p::l=>cT (xR l) p.1 (some (.cells (gt p.2.1) (dK undef p.2.1 0 .lf) p.2.2 1 true))
def xS(tabs:List PB)(G:Nat):Nu:=λ h=>if h<G then some (h,match tabs.find? (λ p=>p.1 == h) with|some p=>p.2.1.length|none=>0) else none
def oh(p:PB):Nat × Blk:=(p.1,.lit p.2.1 p.2.2 (0,0))
def xT(G:Nat):List PB -> Bool
 | []=>true
 | p::l=>match Nat.blt p.1 G,xd p.2.1,l.any (λ q=>q.1 == p.1) with
  | true,true,false=>xT G l
  | _,_,_=>false
end
noncomputable section
theorem BX:∀ (tabs:List PB) (h:Nat),bL (xR tabs) h=match tabs.find? (λ p=>p.1 == h) with
  | some p=>some (.cells (gt p.2.1) (dK undef p.2.1 0 .lf) p.2.2 1 true)
  | none=>none
 | [],h=>zK _
 | p::l,h=>by
  rw[xR,dC,BX l h]
  by_cases e:p.1=h
  ·rw[if_pos e,List.find?_cons_of_pos (by simpa using e)]
  ·rw[if_neg e,List.find?_cons_of_neg (by simpa using e)]
theorem ma{G:Nat}:∀ {tabs:List PB},xT G tabs=true -> ∀p∈tabs,p.1<G /\ xd p.2.1=true
 | [],_,p,hp=>by simp at hp
 | q::l,h,p,hp=>by
  rw[xT] at h
  split at h
  ·rename_i h1 h2 h3
   rcases List.mem_cons.1 hp with rfl|hp
   ·exact⟨Eq.mp Nat.blt_eq h1,h2⟩
   ·exact ma h p hp
  ·cases h
theorem B0:∀ {l:List Value},xd l=true -> ∀ {i:Nat} {v:Value},l[i]?=some v -> pl v=true
 | [],_,i,v,h=>by simp at h
 | x::l,hp,i,v,h=>by
  rw[xd] at hp
  split at hp
  ·rename_i hx
   cases i with
   | zero=>simp at h;rw[<- h];exact hx
   | succ i=>exact B0 hp (by simpa using h)
  ·cases hp
theorem pd{tabs:List PB}{h:Nat}{p:PB}(e:tabs.find? (λ p=>p.1 == h)=some p):p∈tabs /\ p.1=h :=
 ⟨List.mem_of_find?_eq_some e,by simpa using List.find?_some e⟩
section
variable {tabs picks:List PB} {G:Nat} {F:HL} {w:World}
theorem M4(ht:xT G tabs=true)(hR:Rel (tabs.map oh++F) w):HR (xS tabs G) (xR tabs) F w:=by
 have key:∀h b,bL (xR tabs) h=some b -> ∃p,tabs.find? (λ p=>p.1 == h)=some p /\ b=.cells (gt p.2.1) (dK undef p.2.1 0 .lf) p.2.2 1 true:=λ h b hb=>by
  rw[BX] at hb
  split at hb
  ·rename_i p hp;cases hb;exact⟨p,hp,rfl⟩
  ·cases hb
 refine⟨λ h b hb=>?_,λ h₁ h₂ b₁ b₂ r K₁ K₂ _ _ e1 e2=>?_,λ x hx=>hR.holds x (List.mem_append_right _ hx),λ h b r K hb e1 x hx=>?_⟩
 ·obtain⟨p,hp,rfl⟩:=key h b hb
  obtain⟨hm,rfl⟩:=pd hp
  obtain⟨iF,IN⟩:=ma ht p hm
  refine⟨p.1,p.2.1.length,.cells ⟨p.2.1⟩ p.2.2 (0,0),by simp only[xS,if_pos iF,hp],?_,?_⟩
  ·exact hR.holds (oh p) (List.mem_append_left _ (List.mem_map.2 ⟨p,hm,rfl⟩))
  ·refine⟨rfl,by rw[d9];exact Nat.le_refl _,rfl,λ i hi=>?_,λ _=>by simp⟩
   rw[d9] at hi
   refine⟨p.2.1[i],by simp[hi],?_⟩
   rw[lB hi]
   exact VRi.plain_refl _ (B0 IN (List.getElem?_eq_getElem hi))
 ·unfold xS at e1 e2
  split at e1
  ·split at e2
   ·simp only[Option.some.injEq,Prod.mk.injEq] at e1 e2
    rw[e1.1,e2.1]
   ·cases e2
  ·cases e1
 ·obtain⟨p,hp,rfl⟩:=key h b hb
  obtain⟨hm,rfl⟩:=pd hp
  have hr:r=p.1:=by
   unfold xS at e1
   split at e1
   ·simp only[Option.some.injEq,Prod.mk.injEq] at e1;exact e1.1.symm
   ·cases e1
  intro e
  have hn:=hR.nodup
  rw[List.map_append,List.nodup_append] at hn
  exact hn.2.2 p.1 (by rw[List.map_map];exact List.mem_map.2 ⟨p,hm,rfl⟩) x.1 (List.mem_map.2 ⟨x,hx,rfl⟩) (by rw[e,hr])
def Kq(H:AH)(p:PB):Bool:=match bL H p.1 with
 | some (.cells n t ty ww _)=>match Nat.beq n (gt p.2.1),Nat.beq ty p.2.2,Nat.beq ww 1 with
  | true,true,true=>pZ (gL t 0 n) p.2.1
  | _,_,_=>false
 | _=>false
def B1(H:AH):List PB -> Bool
 | []=>true
 | p::l=>match Kq H p with
  | true=>B1 H l
  | false=>false
theorem ud{H:AH}:∀ {l:List PB},B1 H l=true -> ∀p∈l,Kq H p=true
 | [],_,p,hp=>by simp at hp
 | q::l,h,p,hp=>by
  rw[B1] at h
  split at h
  ·rename_i h1
   rcases List.mem_cons.1 hp with rfl|hp
   ·exact h1
   ·exact ud h p hp
  ·cases h
theorem ue{H:AH}:∀ {l:List PB},BV H l=true -> ∀p∈l,Ko H p=true
 | [],_,p,hp=>by simp at hp
 | q::l,h,p,hp=>by
  rw[BV] at h
  split at h
  ·rename_i h1
   rcases List.mem_cons.1 hp with rfl|hp
   ·exact h1
   ·exact ue h p hp
  ·cases h
theorem LR.plain_eq{ν:Nu}{l l':List Value}(h:LR ν l l'):xd l=true -> l'=l:=by
 induction h with
 | nil=>intro _;rfl
 | @cons v v' l l' h _ ih =>
  intro hp
  rw[xd] at hp
  split at hp
  ·rename_i hv;rw[VRi.plain_eq h hv,ih hp]
  ·cases hp
theorem Kr{ν:Nu}{H:AH}(hH:HR ν H F w){p:PB}(hc:Kq H p=true)(hp:xd p.2.1=true)(hν:ν p.1=some (p.1,p.2.1.length)):w.heap[p.1]?=some (oh p).2.den /\ ∃b,bL H p.1=some b:=by
 unfold Kq at hc
 split at hc
 case h_2=>cases hc
 rename_i n t ty ww ro hb
 split at hc
 case h_2=>cases hc
 rename_i e1 e2 e3
 have e1:=Nat.eq_of_beq_eq_true e1
 have e2:=Nat.eq_of_beq_eq_true e2
 have e3:=Nat.eq_of_beq_eq_true e3
 have e4:=BW _ _ hc
 obtain⟨c,ty',fz,g1,g2⟩:=hH.cells hb hν
 refine⟨?_,_,hb⟩
 have hr:=j6 g2.le g2.get n 0 (by omega)
 rw[e4] at hr
 have hl:=hr.plain_eq hp
 have G_:=g2.gr (by omega)
 rw[e3,Nat.mul_one] at G_
 rw[d9] at e1
 rw[g1,g2.ty,g2.fz,e2]
 simp only[oh,Blk.den]
 congr 2
 apply Array.ext'
 rw[List.drop_zero] at hl
 rw[<- hl,List.take_of_length_le]
 have:c.toList.length=c.size:=rfl
 omega
theorem rQ:∀ {l:List PB},(l.map (·.1)).Nodup -> ∀ {p q:PB},p∈l -> q∈l -> q.1=p.1 -> q=p
 | [],_,p,q,hp,_,_=>by simp at hp
 | x::l,hd,p,q,hp,hq,e=>by
  simp only[List.map_cons,List.nodup_cons] at hd
  rcases List.mem_cons.1 hp with h1|h1 <;> rcases List.mem_cons.1 hq with h2|h2
  ·rw[h1,h2]
  ·exact absurd (List.mem_map.2 ⟨q,h2,by rw[e,h1]⟩) hd.1
  ·exact absurd (List.mem_map.2 ⟨p,h1,by rw[<- e,h2]⟩) hd.1
  ·exact rQ hd.2 h1 h2 e
def M5(tabs picks:List PB)(v0:Value):Option Rs -> Bool
 | some (.fn v H _)=>match sx v v0,rO v0,B1 H tabs with
  | true,true,true=>BV H picks
  | _,_,_=>false
 | _=>false
theorem LR.plain_refl{ν:Nu}:∀ {l:List Value},xd l=true -> LR ν l l
 | [],_=>.nil
 | v::l,h=>by
  rw[xd] at h
  split at h
  ·rename_i hv;exact .cons (VRi.plain_refl v hv) (LR.plain_refl h)
  ·cases h
theorem uf{P:Program}(hm:P.follows .mixedOrders=true){k n0:Nat}{f:FuncId}{args:List Value}{v0:Value}(hG:Nat.ble G n0=true)(ht:xT G tabs=true)(ha:xd args=true)
  (Ti:(tabs.map (·.1)++picks.map (·.1)).Nodup) (f_:M5 tabs picks v0 (Hg P G k (.fn f args (xR tabs) n0))=true) :
  Sp P f ⟨args⟩ (tabs.map oh) F λ v' H'=>∃ν rest,v'=mt ν v0 /\ H'=tabs.map oh++picks.map (rP ν rest):=by
 intro w hR
 have hG:=bO hG
 cases So:Hg P G k (.fn f args (xR tabs) n0) with
 | none=>rw[So] at f_;cases f_
 | some res=>cases res with
  | cd e s=>rw[So] at f_;cases f_
  | fn v H n' =>
   rw[So] at f_
   simp only[M5] at f_
   split at f_
   case h_2=>cases f_
   rename_i q1 q2 q3
   rw[BT] at So
   obtain⟨hn,RP⟩:=BF hm k _ _ So
   have iF:∀p∈tabs,p.1<G:=λ p hp=>(ma ht p hp).1
   refine(RP (xS tabs G) F w args (λ k hk=>⟨_,if_pos hk⟩) (λ h h1 h2=>by simp only[xS];rw[if_neg (by omega)]) (M4 ht hR) (LR.plain_refl ha)).mono ?_
   rintro e w' ⟨ν,v',rfl,hv,hext,hH,hbel⟩
   rw[zV _ _ q1] at hv
   have hνt:∀p∈tabs,ν p.1=xS tabs G p.1:=λ p hp=>hext.out _ (.inl (by have:=iF p hp;omega))
   have Vr:∀p∈tabs,ν p.1=some (p.1,p.2.1.length):=λ p hp=>by
    rw[hνt p hp]
    simp only[xS,if_pos (iF p hp)]
    congr 2
    have hd:(tabs.map (·.1)).Nodup:=(List.nodup_append.1 Ti).1
    cases hf:tabs.find? (λ q=>q.1 == p.1) with
    | none=>exact absurd (List.find?_eq_none.1 hf p hp) (by simp)
    | some q =>
     obtain⟨hq,P_⟩:=pd hf
     have:q=p:=rQ hd hp hq P_
     simp[this]
   have ZT:∀p∈tabs,w'.heap[p.1]?=some (oh p).2.den /\ ∃b,bL H p.1=some b:=λ p hp=>Kr hH (ud q3 p hp) (ma ht p hp).2 (Vr p hp)
   have hpk:∀p∈picks,(∃K,ν p.1=some (vl ν p.1,K)) /\ (∃b,bL H p.1=some b) /\ w'.heap[vl ν p.1]?=some (rP ν (o9 ν w') p).2.den:=λ p hp=>Hk hH (ue f_ p hp)
   refine⟨v',tabs.map oh++picks.map (rP ν (o9 ν w')),rfl,⟨ν,o9 ν w',BU hv q2,rfl⟩,⟨?_,?_⟩,hbel⟩
   ·intro x hx
    rcases List.mem_append.1 hx with hx|hx
    ·rcases List.mem_append.1 hx with hx|hx
     ·obtain⟨p,hp,rfl⟩:=List.mem_map.1 hx
      exact(ZT p hp).1
     ·obtain⟨p,hp,rfl⟩:=List.mem_map.1 hx
      exact(hpk p hp).2.2
    ·exact hH.frm x hx
   ·-- the handles' blocks
    have QJ:∀h∈tabs.map (·.1)++picks.map (·.1),∃K b,ν h=some (vl ν h,K) /\ bL H h=some b:=λ h hh=>by
     rcases List.mem_append.1 hh with hh|hh
     ·obtain⟨p,hp,rfl⟩:=List.mem_map.1 hh
      obtain⟨b,hb⟩:=(ZT p hp).2
      exact⟨p.2.1.length,b,by simp[vl,Vr p hp],hb⟩
     ·obtain⟨p,hp,rfl⟩:=List.mem_map.1 hh
      obtain⟨⟨K,h1⟩,⟨b,hb⟩,-⟩:=hpk p hp
      exact⟨K,b,h1,hb⟩
    have e1:(tabs.map oh++picks.map (rP ν (o9 ν w'))).map (·.1)=(tabs.map (·.1)++picks.map (·.1)).map (vl ν):=by
     simp only[List.map_append,List.map_map]
     congr 1
     apply List.map_congr_left
     intro p hp
     simp[oh,vl,Vr p hp]
    rw[List.map_append,List.nodup_append,e1]
    refine⟨?_,?_,λ a ha b hb=>?_⟩
    ·rw[List.Nodup,List.pairwise_map]
     refine(List.pairwise_iff_forall_sublist.2 λ {a b} hs=>?_)
     have ha':=QJ a (hs.subset (by simp))
     have R6:=QJ b (hs.subset (by simp))
     obtain⟨K1,b1,x1,x2⟩:=ha'
     obtain⟨K2,b2,y1,y2⟩:=R6
     intro e
     have hab:a=b:=hH.inj _ _ _ _ _ _ _ x2 y2 x1 (by rw[e];exact y1)
     have:=Ti.sublist hs
     simp[hab] at this
    ·have:=hR.nodup
     rw[List.map_append,List.nodup_append] at this
     exact this.2.1
    ·obtain⟨h,hh,rfl⟩:=List.mem_map.1 ha
     obtain⟨x,hx,rfl⟩:=List.mem_map.1 hb
     obtain⟨K,b,g1,g2⟩:=QJ h hh
     exact(hH.apt _ _ _ _ g2 g1 x hx).symm
end
end
theorem Hm{P:Program}{f:FuncId}{args:Array Value}{x:Nat × Blk}{F:HL}{Q:Value -> HL -> Prop}(hx:x∈F)(h:∀F0,Sp P f args [x] F0 λ u H'=>∃Hp,Q u Hp /\ H'=[x]++Hp):Sp P f args [] F Q:=by
 obtain⟨l1,l2,rfl⟩:=List.append_of_mem hx
 have hp:∀H:HL,([x]++H++(l1++l2)).Perm (H++(l1++x::l2)):=λ H=>by
  refine List.Perm.trans ?_ (List.Perm.append_left H List.perm_middle.symm)
  show (x::(H++(l1++l2))).Perm (H++x::(l1++l2))
  exact List.perm_middle.symm
 intro w hR
 have VD:Rel ([x]++(l1++l2)) w:=hR.perm (by have:=hp [];simpa using this)
 refine(h (l1++l2) w VD).mono ?_
 rintro e w' ⟨v,H',he,⟨Hp,hq,rfl⟩,QK,hb⟩
 exact⟨v,Hp,he,hq,QK.perm (hp Hp).symm,hb⟩
noncomputable section
def iv(x:Int):Value:=.int .i64 x
def xU:List Value:=[iv 0,iv 0,iv 0,iv 1,iv 0,iv 1,iv 1,iv 0,iv 1,iv 1,iv 2,iv 0,iv 0,iv 1,iv 0,iv 1,iv 0,iv 1,iv 2,iv 1,iv 2,iv 1,iv 2,iv 1,iv 2,iv 1,iv 1,iv 1,iv 2,iv 1,iv 2,iv 1,iv 2,iv 1,iv 1,iv 1,iv 0,iv 0,iv 1,iv 0,iv 2,iv 0,iv 0,iv 0]
def mG:List PB:=[(1,xU,259)]
def OU:String:="on tick { n = n + 1; if n >= 3 { effect 1, n; n = 0; } }"
def OV:String:="on act { vx[self] = vx[self] + 100 * other; effect 2, self; } on hit { a[self] = a[self] + 1; effect 3, other; }"
def OW:String:="on hit { if hit[other] == self + 1 && a[self] < a[other] { vx[self] = -vx[self]; b[self] = tick; } else { stop; } effect 4, a[self]; }"
def OX:String:="on tick { i = 0; while i < 4 { b[i] = b[i] + still[i]; i = i + 1; } s = s + x[0] / 100; effect 5, s; } on act { s = 0; }"
def OY:List Value:=[iv 2,iv 0,iv 1,iv 1,iv 9,iv 0,iv 3,iv 0,iv 1,iv 3,iv 2,iv 0,iv 15,iv 0,iv 19,iv 14,iv 1,iv 1,iv 2,iv 0,iv 20,iv 0,iv 1,iv 0,iv 3,iv 0,iv 18,iv 14,iv 21,iv 0]
def OZ:List Value:=[iv 6,iv 0,iv 6,iv 0,iv 4,iv 2,iv 1,iv 100,iv 7,iv 0,iv 11,iv 0,iv 9,iv 0,iv 5,iv 2,iv 1,iv 2,iv 6,iv 0,iv 20,iv 0,iv 21,iv 0,iv 6,iv 0,iv 6,iv 0,iv 4,iv 4,iv 1,iv 1,iv 9,iv 0,iv 5,iv 4,iv 1,iv 3,iv 7,iv 0,iv 20,iv 0,iv 21,iv 0]
def O0:List Value:=[iv 7,iv 0,iv 4,iv 6,iv 6,iv 0,iv 1,iv 1,iv 9,iv 0,iv 16,iv 0,iv 19,iv 13,iv 6,iv 0,iv 4,iv 4,iv 7,iv 0,iv 4,iv 4,iv 14,iv 0,iv 18,iv 14,iv 1,iv 0,iv 19,iv 24,iv 6,iv 0,iv 6,iv 0,iv 4,iv 2,iv 13,iv 0,iv 5,iv 2,iv 6,iv 0,iv 8,iv 0,iv 5,iv 5,iv 18,iv 25,iv 21,iv 0,iv 1,iv 4,iv 6,iv 0,iv 4,iv 4,iv 20,iv 0,iv 21,iv 0]
def O1:List Value:=[iv 1,iv 0,iv 3,iv 0,iv 21,iv 0,iv 1,iv 0,iv 3,iv 1,iv 2,iv 1,iv 1,iv 4,iv 14,iv 0,iv 19,iv 21,iv 2,iv 1,iv 2,iv 1,iv 4,iv 5,iv 2,iv 1,iv 4,iv 7,iv 9,iv 0,iv 5,iv 5,iv 2,iv 1,iv 1,iv 1,iv 9,iv 0,iv 3,iv 1,iv 18,iv 5,iv 2,iv 0,iv 1,iv 0,iv 4,iv 0,iv 1,iv 100,iv 12,iv 0,iv 9,iv 0,iv 3,iv 0,iv 1,iv 5,iv 2,iv 0,iv 20,iv 0,iv 21,iv 0]
def DP(h len:Nat)(a b c:Int):Value:=.tuple ⟨[.agg ⟨[.slice (some ⟨h,0,none⟩) len lU,iv a,iv b,iv c]⟩,iv 0]⟩
def Qz:Value:=.tuple ⟨[.agg ⟨[.slice none 0 0,iv (-1),iv (-1),iv (-1)]⟩,iv 0]⟩
def ug(src:String)(picks:List PB)(v:Value):Bool:=M5 mG picks v (Hg Tryz.prog 4 100000 (.fn 59 [.string src.toUTF8] (xR mG) 4))
theorem mixed:Tryz.prog.follows .mixedOrders=true:=by kernel_rfl
theorem qu{src:String}{h:Nat}{cod:List Value}{ty:TypeId}{v:Value}{F:HL}(hh:h≠1)(hq:ug src [(h,cod,ty)] v=true) :
  Sp Tryz.prog 59 #[.string src.toUTF8] (mG.map oh) F λ v' H'=>∃ν rest,v'=mt ν v /\ H'=mG.map oh++[rP ν rest (h,cod,ty)] :=
 uf (G:=4) (tabs:=mG) (picks:=[(h,cod,ty)]) mixed rfl rfl rfl (by simp[mG,hh.symm]) hq
theorem Ks:ug "" [] Qz=true:=by kernel_rfl
end
theorem Ku:ug OU [(1096,OY,155)] (DP 1096 15 (-1) 0 (-1))=true:=by kernel_rfl
theorem Kv:ug OV [(1805,OZ,155)] (DP 1805 22 0 (-1) 12)=true:=by kernel_rfl
theorem Kw:ug OW [(2349,O0,155)] (DP 2349 30 (-1) (-1) 0)=true:=by kernel_rfl
theorem Kx:ug OX [(2280,O1,155)] (DP 2280 32 0 3 (-1))=true:=by kernel_rfl
noncomputable section
def pL:Nat -> ByteArray
 | 0=>"".toUTF8
 | 1=>OU.toUTF8
 | 2=>OV.toUTF8
 | 3=>OW.toUTF8
 | _=>OX.toUTF8
def pf:Nat -> List Value
 | 0=>[]
 | 1=>OY
 | 2=>OZ
 | 3=>O0
 | _=>O1
def cE:Nat -> Nat
 | 0=>0
 | 1=>15
 | 2=>22
 | 3=>30
 | _=>32
def Ky:Nat -> List Value
 | 0=>[iv (-1),iv (-1),iv (-1)]
 | 1=>[iv (-1),iv 0,iv (-1)]
 | 2=>[iv 0,iv (-1),iv 12]
 | 3=>[iv (-1),iv (-1),iv 0]
 | _=>[iv 0,iv 3,iv (-1)]
inductive PrgV(j:Nat):Value -> HL -> Prop
 | nil:j=0 -> PrgV j (.slice none 0 0) []
 | some (b cap:Nat) (rest:List Value):PrgV j (.slice (some ⟨b,0,none⟩) (cE j) cap) [(b,.lit (pf j++rest) 155 (0,0))]
theorem me(ν:Nu)(h len:Nat)(a b c:Int):mt ν (DP h len a b c)=.tuple ⟨[.agg ⟨[.slice (some ⟨vl ν h,0,none⟩) len (Qy ν h lU),iv a,iv b,iv c]⟩,iv 0]⟩:=by
 simp only[DP,mt,Hh,Hj,iv]
theorem Hn{j:Nat}(hj:j<5){F:HL}:Sp Tryz.prog 59 #[.string (pL j)] (mG.map oh) F λ u H'=>∃s Hp,PrgV j s Hp /\ u=.tuple ⟨[.agg ⟨s::Ky j⟩,iv 0]⟩ /\ H'=mG.map oh++Hp:=by
 match j,hj with
 | 0,_ =>
  refine(uf (G:=4) (tabs:=mG) (picks:=[]) mixed rfl rfl rfl (by simp[mG]) Ks).mono ?_
  rintro u H' ⟨ν,rest,rfl,rfl⟩
  exact⟨_,[],.nil rfl,rfl,rfl⟩
 | 1,_ =>
  refine(qu (by decide) Ku).mono ?_
  rintro u H' ⟨ν,rest,rfl,rfl⟩
  exact⟨_,_,.some _ _ _,me ..,rfl⟩
 | 2,_ =>
  refine(qu (by decide) Kv).mono ?_
  rintro u H' ⟨ν,rest,rfl,rfl⟩
  exact⟨_,_,.some _ _ _,me ..,rfl⟩
 | 3,_ =>
  refine(qu (by decide) Kw).mono ?_
  rintro u H' ⟨ν,rest,rfl,rfl⟩
  exact⟨_,_,.some _ _ _,me ..,rfl⟩
 | 4,_ =>
  refine(qu (by decide) Kx).mono ?_
  rintro u H' ⟨ν,rest,rfl,rfl⟩
  exact⟨_,_,.some _ _ _,me ..,rfl⟩
theorem Kz{j:Nat}(hj:j<5){F:HL}(hF:(1,Blk.lit xU 259 (0,0))∈F):Sp Tryz.prog 59 #[.string (pL j)] [] F λ u H'=>∃s,PrgV j s H' /\ u=.tuple ⟨[.agg ⟨s::Ky j⟩,iv 0]⟩ :=
 Hm hF λ F0=>(Hn hj).mono λ u H' ⟨s,Hp,h1,h2,h3⟩=>⟨Hp,⟨s,h1,h2⟩,h3⟩
end
def bz(j k:Nat):Int:=match (Ky j)[k]? with|some (.int _ x)=>x|_=>0
def LE:List Value -> List Ins
 | .int _ a :: .int _ b::r=>⟨a,b⟩::LE r
 | _=>[]
def fO(j:Nat):List Ins:=LE (pf j)
theorem lF:∀ {j:Nat},j<5 -> (fO j).length=cE j
 | 0,_=>by kernel_rfl
 | 1,_=>by kernel_rfl
 | 2,_=>by kernel_rfl
 | 3,_=>by kernel_rfl
 | 4,_=>by kernel_rfl
 | j+5,h=>absurd h (by omega)
theorem nh:∀ {j:Nat},j<5 -> pf j=ay ij (fO j)
 | 0,_=>by kernel_rfl
 | 1,_=>by kernel_rfl
 | 2,_=>by kernel_rfl
 | 3,_=>by kernel_rfl
 | 4,_=>by kernel_rfl
 | j+5,h=>absurd h (by omega)
theorem qx:∀ {j:Nat},j<5 -> cE j <= 32
 | 0,_=>by decide
 | 1,_=>by decide
 | 2,_=>by decide
 | 3,_=>by decide
 | 4,_=>by decide
 | j+5,h=>absurd h (by omega)
theorem KA:∀ {j:Nat},j<5 -> Ky j=[vI (bz j 0),vI (bz j 1),vI (bz j 2)]
 | 0,_=>by kernel_rfl
 | 1,_=>by kernel_rfl
 | 2,_=>by kernel_rfl
 | 3,_=>by kernel_rfl
 | 4,_=>by kernel_rfl
 | j+5,h=>absurd h (by omega)
abbrev pM(F:HL):Prop:=(1,Blk.lit xU 259 (0,0))∈F
def InsW(F:HL)(j:Nat)(A:Option Addr):Prop:=0<cE j -> ∃b rest,A=some ⟨b,0,none⟩ /\ (b,Blk.lit (pf j++rest) 155 (0,0))∈F
structure CodT(j:Nat)(A:Option Addr)(T:HL):Prop where
 src:∀F,(∀x∈T,x∈F) -> SrcIn Tryz.prog ij F A (cE j) (fO j)
 wrd:∀F,(∀x∈T,x∈F) -> InsW F j A
theorem Hs{j:Nat}(hj:j<5)(F:HL)(hE:pM F):Sp Tryz.prog 59 #[.string (pL j)] (ap [] []) F (λ u H'=>∃x:Option Addr × Nat × HL,H'=ap [] [x.2.2] /\ (u=.tuple #[.agg #[.slice x.1 (cE j) x.2.1,vI (bz j 0),vI (bz j 1),vI (bz j 2)],vI 0] /\ CodT j x.1 x.2.2)):=by
 refine(Kz hj hE).mono ?_
 rintro u H' ⟨s,hp,rfl⟩
 rw[KA hj]
 cases hp with
 | nil h0 =>
  subst h0
  exact⟨(none,0,[]),(bB _).symm,rfl,⟨λ F hF=>SrcIn.none,λ F hF h=>absurd h (by decide)⟩⟩
 | some b cap rest =>
  refine⟨(some ⟨b,0,none⟩,cap,[(b,.lit (pf j++rest) 155 (0,0))]),(bB _).symm,rfl,⟨λ F hF=>?_,λ F hF h=>⟨b,rest,rfl,hF _ (List.mem_singleton.2 rfl)⟩⟩⟩
  have h:=SrcIn.lit Ff (xs:=fO j) (rest:=rest) (ty:=155) (fz:=(0,0)) (F:=F) (q:=b) (by rw[<- nh hj];exact hF _ (List.mem_singleton.2 rfl))
  rw[lF hj] at h
  exact h
inductive Book1(j bp:Nat):HL -> Prop
 | mk (q:Nat) (A:Option Addr) (c:Nat) (T:HL) (h:CodT j A T):Book1 j bp (ap [(bp,.lit [vS q 0 1 1] 105 (0,0)),(q,.lit [vI 0,.slice A (cE j) c,vI (bz j 0),vI (bz j 1),vI (bz j 2)] 111 (0,0))] [T])
def O2:List Value:=[.string ⟨#[]⟩,.string ⟨#[111,110,32,116,105,99,107,32,123,32,110,32,61,32,110,32,43,32,49,59,32,105,102,32,110,32,62,61,32,51,32,123,32,101,102,102,101,99,116,32,49,44,32,110,59,32,110,32,61,32,48,59,32,125,32,125]⟩,.string ⟨#[111,110,32,97,99,116,32,123,32,118,120,91,115,101,108,102,93,32,61,32,118,120,91,115,101,108,102,93,32,43,32,49,48,48,32,42,32,111,116,104,101,114,59,32,101,102,102,101,99,116,32,50,44,32,115,101,108,102,59,32,125,32,111,110,32,104,105,116,32,123,32,97,91,115,101,108,102,93,32,61,32,97,91,115,101,108,102,93,32,43,32,49,59,32,101,102,102,101,99,116,32,51,44,32,111,116,104,101,114,59,32,125]⟩,.string ⟨#[111,110,32,104,105,116,32,123,32,105,102,32,104,105,116,91,111,116,104,101,114,93,32,61,61,32,115,101,108,102,32,43,32,49,32,38,38,32,97,91,115,101,108,102,93,32,60,32,97,91,111,116,104,101,114,93,32,123,32,118,120,91,115,101,108,102,93,32,61,32,45,118,120,91,115,101,108,102,93,59,32,98,91,115,101,108,102,93,32,61,32,116,105,99,107,59,32,125,32,101,108,115,101,32,123,32,115,116,111,112,59,32,125,32,101,102,102,101,99,116,32,52,44,32,97,91,115,101,108,102,93,59,32,125]⟩,.string ⟨#[111,110,32,116,105,99,107,32,123,32,105,32,61,32,48,59,32,119,104,105,108,101,32,105,32,60,32,52,32,123,32,98,91,105,93,32,61,32,98,91,105,93,32,43,32,115,116,105,108,108,91,105,93,59,32,105,32,61,32,105,32,43,32,49,59,32,125,32,115,32,61,32,115,32,43,32,120,91,48,93,32,47,32,49,48,48,59,32,101,102,102,101,99,116,32,53,44,32,115,59,32,125,32,111,110,32,97,99,116,32,123,32,115,32,61,32,48,59,32,125]⟩]
def M6:Nat -> Nat -> Value:=λ i k=>match k with|0=>.string (pL i)|_=>default
theorem xV(F:HL):Sp Tryz.prog 60 #[] (ap [] []) F (λ u H'=>∃q:Nat,H'=ap [(q,.lit O2 9 (0,0))] [] /\ u=vS q 0 5 5):=by
 refine Sp.run Tryz.func60 rfl mn (A:=[]) (Ts:=[]) rfl λ w0=>?_
 refine ae 11 [] λ n1=>RN.ret [] [0] [] (v:=vS (n1+0) 0 5 5) (H':=(ap [((n1+0),.lit O2 9 (0,0))] [])) ?_
 exact⟨_,rfl,rfl⟩
theorem rR(n:Int)(F:HL)(hn:nV n):Sp Tryz.prog 32 #[vI n] [] F (λ u H'=>u=.string (pL (au n 5).toNat) /\ H'=[]):=by
 refine Sp.run Tryz.func32 rfl mn (A:=[]) (Ts:=[]) rfl λ w0=>?_
 refine ae 7 [] λ _=>RN.ct (Hp:=[]) (Tp:=[]) [] [] (xV _) ?_
 rintro _ q1 rfl
 refine ae 1 [] λ _=>RN.cp (gq n 5 (by decide) _) ?_
 have hA2:=cj (n:=n) hn 5 (by decide)
 refine RN.dn 0 (.rows 1 5 M6 9 (0,0))<|ai 5 [.ix ((au n 5).toNat),.row 0 ((au n 5).toNat) 0] [(0+((au n 5).toNat) * 1)=((au n 5).toNat) * 1+0 /\ ((au n 5).toNat)<5,au n 5=(((au n 5).toNat:Nat):Int) /\ (au n 5).toNat<5] λ _=>?_
 exact RN.ret [] [] [] ⟨rfl,rfl⟩
theorem Ht(j:Nat)(F:HL)(hj:j<5)(hE:pM F):Sp Tryz.prog 31 #[.string (pL j)] (ap [] []) F (λ u H'=>∃x:Nat × HL,H'=ap [] [x.2] /\ (u=.tuple #[vP x.1 0,vI 0] /\ Book1 j x.1 x.2)):=by
 refine Sp.run Tryz.func31 rfl mn (A:=[]) (Ts:=[]) rfl λ w0=>?_
 refine ae 9 [] λ _=>RN.ct (Hp:=[]) (Tp:=[]) [] [] (Hs hj _ (ar hE)) ?_
 rintro _ ⟨A1,c2,T3⟩ ⟨rfl,hC4⟩
 dsimp only at hC4
 refine ae 29 (ow 0 8) λ n5=>RN.ret [] [0,1] [0] (v:=.tuple #[vP (n5+2) 0,vI 0]) (H':=(ap [((n5+2),.lit [vS (n5+1) 0 1 1] 105 (0,0)),((n5+1),.lit [vI 0,.slice A1 (cE j) c2,vI (bz j 0),vI (bz j 1),vI (bz j 2)] 111 (0,0))] [T3])) ?_
 exact⟨((n5+2),ap [((n5+2),.lit [vS (n5+1) 0 1 1] 105 (0,0)),((n5+1),.lit [vI 0,.slice A1 (cE j) c2,vI (bz j 0),vI (bz j 1),vI (bz j 2)] 111 (0,0))] [T3]),by simp[ap],rfl,.mk _ _ _ _ hC4⟩
open Go.Shelf
def SpD(P:Program)(f:FuncId)(args:Array Value)(H F:HL)(R:Value -> HL -> Prop):Prop :=
 ∀w,Rel (H++F) w -> CallsDIn (Wr none) 0 P f args .returning w λ e u' w'=>u'=.returning /\ ∃v H',e=.returned v /\ R v H' /\ Rel (H'++F) w' /\ Below 0 w w'
theorem SpD.mono{P:Program}{f:FuncId}{args:Array Value}{H F:HL}{R R':Value -> HL -> Prop}(h:SpD P f args H F R)(hr:∀v H',R v H' -> R' v H'):SpD P f args H F R' :=
 λ w hR=>(h w hR).mono λ e u' w' ⟨h0,v,H',h1,h2,h3,h4⟩=>⟨h0,v,H',h1,hr _ _ h2,h3,h4⟩
section
variable {r:Option Nat} {P:Program} {N:Nat} {D:List Deferred} {F:HL} {w0:World} {R:HL} {s:Cfg} {Q:Exit -> Act -> World -> Prop}
def dfR(N:Nat)(s:Cfg):Option (FuncId × Array Value × Array Value):=match pS s with
 | some o=>match o.guard,o.op,(fh N o.dst undef s.L).isSome with
  | none,.defer c,true=>match c.callee with
   | .value f=>match kJ s.L f && c.args.toList.all (kJ s.L) with
    | true=>match ie s.L f with
     | .func (.func g) first cap=>some (g,first++c.args.map (ie s.L),cap)
     | _=>none
    | false=>none
   | _=>none
  | _,_,_=>none
 | none=>none
abbrev O3(g:FuncId)(args cap:Array Value):Deferred:={ target:=.fn (.func g) cap,args:=args }
theorem B2{L:FL}{a:Act}(hF:Fm N D L a):∀ (l:List Operand),l.all (kJ L)=true -> l.map a.eval=l.map (ie L)
 | [],_=>rfl
 | x::l,h=>by
  rw[List.all_cons,Bool.and_eq_true] at h
  rw[List.map_cons,List.map_cons,hF.eval h.1,B2 hF l h.2]
theorem O4{g:FuncId}{args cap:Array Value}(hk:RN none P N (O3 g args cap::D) F w0 R (fD N undef s) Q)(h:dfR N s=some (g,args,cap):=by kernel_rfl):RN none P N D F w0 R s Q:=by
 refine⟨λ hR a w hF aT hB=>?_⟩
 obtain⟨cc,kk,L,A,Ts⟩:=s
 unfold dfR at h
 split at h
 case h_2=>cases h
 rename_i o q0
 split at h
 case h_2=>cases h
 rename_i c q1 q2 q3
 split at h
 case h_2=>cases h
 rename_i f q4
 split at h
 case h_2=>cases h
 rename_i q5
 split at h
 case h_2=>cases h
 rename_i g' first bY q6
 simp only[Option.some.injEq,Prod.mk.injEq] at h
 obtain⟨e1,e2,e3⟩:=h
 subst e1;subst e2;subst e3
 unfold pS at q0
 cases cc with
 | code c=>cases q0
 | ex c=>cases q0
 | drw _ _=>cases q0
 | ops ops j =>
  simp only at q0 q3 q5 q6 hF aT
  have IT:ops.toList.drop j=o::ops.toList.drop (j+1):=by
   have iF:j<ops.toList.length:=(List.getElem?_eq_some_iff.1 q0).1
   rw[List.drop_eq_getElem_cons iF,(List.getElem?_eq_some_iff.1 q0).2]
  show wpListIn _ _ _ _ _ _ _ _
  rw[IT,wpListIn,if_pos (by simp[Region.wanted,q1])]
  refine⟨λ _ _=>trivial,?_⟩
  rw[Bool.and_eq_true] at q5
  obtain⟨L',hl⟩:=eI q3 undef
  have RJ:fD N undef ⟨.ops ops j,kk,L,A,Ts⟩=⟨.ops ops (j+1),kk,L',A,Ts⟩:=by
   unfold fD
   simp only[q0,hl]
  have hh:=hk.h hR
  rw[RJ] at hh
  have Um:c.args.map a.eval=c.args.map (ie L):=by
   apply Array.ext'
   rw[Array.toList_map,Array.toList_map]
   exact B2 hF _ q5.2
  have e1:a.eval f=.func (.func g') first bY:=(hF.eval q5.1).trans q6
  have hex:(o.semAt (Wr none).round a.eval).run P w=.ok (.defer (O3 g' (first++c.args.map (ie L)) bY)) w:=by
   show (Oper.semAt none a.eval o).run P w=_
   rw[Oper.semAt_none]
   simp only[execOp,q2,resolve,q4,e1,Deferred.ofValue,Sem.run_bind,Um]
   rfl
  rw[hex,Oper.uponIn_defer]
  have W0:Fm N (O3 g' (first++c.args.map (ie L)) bY::D) L { a with defers:=O3 g' (first++c.args.map (ie L)) bY::a.defers }:=⟨hF.size,by rw[<- hF.defs],hF.has⟩
  exact hh _ w (W0.put hl) aT hB
structure LV(P:Program)(N:Nat)(D:List Deferred)(F:HL)(w0:World)(R:HL)(fn:Func)(R':Value -> HL -> Prop)(s:Cfg):Prop where
 h:(∀y∈R,y∈F) -> ∀a w,Fm N D s.L a -> Rel (ap s.A s.Ts++F) w -> Below 0 w0 w -> LeavesInM (Wr none) 0 P fn a.tmps (AM F w0 R') a.defers .returning w
theorem O5{fn:Func}{R':Value -> HL -> Prop}(hk:LV P N D F w0 R fn R' s)(hc:mR s=true:=by kernel_rfl):RN none P N D F w0 R s (bodyPostM (Wr none) 0 P fn (AM F w0 R')):=by
 refine⟨λ hR a w hF aT hB=>?_⟩
 have key:=hk.h hR a w hF aT hB
 exact oC hc key key
def O6(ip jp:List Nat)(Hq:HL)(Tq:List HL)(s:Cfg):Cfg:=vW (λ A=>Hq++(oth ip A.length).filterMap (A[·]?)) (λ Ts=>Tq++(oth jp Ts.length).filterMap (Ts[·]?)) s
theorem O7{τ:Type}{fn:Func}{R':Value -> HL -> Prop}{g:FuncId}{args cap:Array Value}(eg:∀args w,(callFunc g args).run P w=.ok (.enter g args) w)(ip jp:List Nat){Hp:HL}{Tp:List HL}{Hq:τ -> HL}{Tq:τ -> List HL}{Rv:Value -> τ -> Prop}
  (hc:SpD P g (args++cap) (ap Hp Tp) (ap (dF ip s) (ez jp s)++F) (λ v H'=>∃x,H'=ap (Hq x) (Tq x) /\ Rv v x)) (hk:∀v x,Rv v x -> LV P N D F w0 R fn R' (O6 ip jp (Hq x) (Tq x) s))
  (hp:bI ip jp s=true:=by kernel_rfl) (hH:picks ip jp s=(Hp,Tp):=by kernel_rfl):LV P N (O3 g args cap::D) F w0 R fn R' s:=by
 unfold bI at hp
 unfold picks at hH
 rw[Bool.and_eq_true] at hp
 simp only[Prod.mk.injEq] at hH
 obtain⟨e1,e2⟩:=hH
 refine⟨λ hR a w hF aT hB=>?_⟩
 have rW:(ap Hp Tp++ap (dF ip s) (ez jp s)).Perm (ap s.A s.Ts):=by
  have h1:=kl s.A s.Ts ip (oth ip s.A.length) jp (oth jp s.Ts.length) hp.1 hp.2
  rw[e1,e2] at h1
  exact h1
 have VD:Rel (ap Hp Tp++(ap (dF ip s) (ez jp s)++F)) w:=by rw[<- List.append_assoc];exact aT.perm (rW.append_right F)
 rw[hF.defs]
 refine⟨by simp,.inr ⟨(λ h=>by cases h),.func g,cap,g,args++cap,rfl,?_,λ _ _=>trivial,?_⟩⟩
 ·show (callFunc g (args++cap)).run P w=_
  exact eg _ _
 ·refine(hc w VD).mono ?_
  rintro e u' w' ⟨rfl,v,H',rfl,⟨x,rfl,hv⟩,RT,S8⟩
  have:=(hk v x hv).h hR { a with defers:=D } w' ⟨hF.size,rfl,hF.has⟩ ?_ (hB.trans S8)
  ·exact this
  ·unfold O6
   rw[qd.1,qd.2.1]
   refine RT.perm ?_
   exact(uw _ _ _ _ _).symm
theorem KB{fn:Func}{R':Value -> HL -> Prop}(hints:List Hint)(Ob:List Prop)(g_:AllP Ob)(ip jp:List Nat){v:Value}{H':HL}(hv:R' v H')
  (h:∀n0,jP P n0 fn.results.toList R hints s=some (v,nF (jP P n0 fn.results.toList R hints s),nF (jP P n0 fn.results.toList R hints s),Ob):=by intro n0;kernel_rfl)
  (hp:bI ip jp s=true:=by kernel_rfl) (hH:ap (picks ip jp s).1 (picks ip jp s).2=H':=by kernel_rfl):LV P N [] F w0 R fn R' s:=by
 unfold bI at hp
 unfold picks at hH
 refine⟨λ hR a w hF aT hB=>?_⟩
 rw[Bool.and_eq_true] at hp
 have h':=h w.heap.size
 unfold jP yQ at h'
 split at h'
 case h_2=>cases h'
 rename_i vs ss hs
 split at h'
 case h_2=>cases h'
 simp only[nF,Option.some.injEq,Prod.mk.injEq] at h'
 obtain⟨e1,-,e3,e4⟩:=h'
 have f_:=jN (P:=P) hF aT fn.results.toList _ _ _ hs rfl rfl hR (λ e=>by cases e) (fP rfl e3) (by rw[e4];exact AllP.mem g_)
 subst e1
 rw[hF.defs]
 exact⟨_,ji (by simp) f_,_,H',rfl,hv,aT.takeT ip _ jp _ hp.1 hp.2 hH,hB⟩
theorem LV.ret{fn:Func}{R':Value -> HL -> Prop}(hints:List Hint)(ip jp:List Nat){v:Value}{H':HL}(hv:R' v H')
 (h:∀n0,jP P n0 fn.results.toList R hints s=some (v,nF (jP P n0 fn.results.toList R hints s),nF (jP P n0 fn.results.toList R hints s),[]):=by intro n0;kernel_rfl)
 (hp:bI ip jp s=true:=by kernel_rfl) (hH:ap (picks ip jp s).1 (picks ip jp s).2=H':=by kernel_rfl):LV P N [] F w0 R fn R' s:=KB hints [] trivial ip jp hv h hp hH
end
def PT(P:Program)(g:FuncId)(lb:Array Value)(own:HL)(F:HL){α:Type}(encs:α -> Array Value)(xs:List α)(Te Tx:HL -> Prop):Prop :=
 ∀ (X:HL) (l:Nat) (J:Nat -> HL -> Prop) (Jx:HL -> Prop) (H0:HL),(∀i x H Y,xs[i]?=some x -> J i H -> YL P l (encs x) H (Y++(X++F)) (λ b H'=>(b=true /\ J (i+1) H') \/ (b=false /\ Jx H'))) -> J 0 H0 ->
  Sp P g (#[.func (.yield l) #[] #[]]++lb) (H0++own) (X++F) (λ _ H'=>∃H1 T1,H'=H1++T1 /\ ((J xs.length H1 /\ Te T1) \/ (Jx H1 /\ Tx T1)))
section
variable {P:Program} {N:Nat} {D:List Deferred} {F:HL} {w0:World} {L:FL} {Q:Exit -> Act -> World -> Prop}
theorem DQ{α σ τ:Type}{g:Operand}{ps:Array Tmp}{assign body:Code}{encs:α -> Array Value}{xs:List α}{gf:FuncId}{lb:Array Value}(hi:kJ L g=true)(hg:ie L g=.func (.func gf) #[] lb)(eg:∀args w,(callFunc gf args).run P w=.ok (.enter gf args) w)
  (Hx:σ -> HL) (I:Nat -> σ -> Prop) (Ix:Code -> σ -> Prop) (La:τ -> FL) (Ha:τ -> HL) (Ia:Nat -> α -> τ -> Prop) (Vf:∀x,(encs x).size=ps.size) (RK:(ps.toList.all λ p=>decide (p<N))=true)
  (x0:σ) (h0:I 0 x0) {A:HL} {Ts:List HL} (ip ir jp jr:List Nat) (hp:(ip++ir).isPerm (List.range A.length)=true) (hj:(jp++jr).isPerm (List.range Ts.length)=true) (Hr:HL) (Tr:List HL) (VT:ir.filterMap (A[·]?)=Hr) (own:HL) {Te Tx:HL -> Prop} (VB:jr.filterMap (Ts[·]?)=own::Tr) (hH:ap (ip.filterMap (A[·]?)) (jp.filterMap (Ts[·]?))=Hx x0)
  (hit:PT P gf lb own (ap Hr Tr++F) encs xs Te Tx)
  (iD:∀ (l i:Nat) (x:α) (s:σ) (Y:HL) (w1:World),xs[i]?=some x -> I i s -> TR (some l) P N [] (Y++(ap Hr Tr++F)) w1 (mQ ps.toList (encs x).toList L) (Hx s) assign (Exit.then (Ja N [] (Y++(ap Hr Tr++F)) w1 La Ha (Ia i x)) (λ _ _ _=>False)))
  (DO:∀ (l i:Nat) (x:α) (t:τ) (Y:HL) (w1:World),xs[i]?=some x -> Ia i x t -> TR (some l) P N [] (Y++(ap Hr Tr++F)) w1 (La t) (Ha t) body (RQ (Y++(ap Hr Tr++F)) w1 Hx (I (i+1)) Ix))
  (C_:∀ (d:Nat) (s:σ) (T1:HL),I xs.length s -> Te T1 -> EX N (coll d::D) F w0 L (bn d::(Hx s++ap Hr (T1::Tr))) Q .normal)
  (By:∀ (d:Nat) (c:Code) (s:σ) (T1:HL),Ix c s -> Tx T1 -> TR none P N (coll d::D) F w0 L (bn d::(Hx s++ap Hr (T1::Tr))) c Q) :
  TR none P N D F w0 L (ap A Ts) (.rangeFunc g ps assign body) Q:=by
 intro a w hF hR hB
 have Z_:∀ (X:HL) (T1:HL),((X++T1)++(ap Hr Tr++F)).Perm (X++(ap Hr (T1::Tr)++F)):=λ X T1=>by
  rw[List.append_assoc]
  refine List.Perm.append_left X ?_
  rw[<- List.append_assoc]
  refine List.Perm.append_right F ?_
  show (T1++(Hr++Tr.flatten)).Perm (Hr++(T1::Tr).flatten)
  rw[List.flatten_cons,<- List.append_assoc,<- List.append_assoc]
  exact List.Perm.append_right _ List.perm_append_comm
 have VD:Rel ((Hx x0++own)++(ap Hr Tr++F)) w:=by
  have h1:=kl A Ts ip ir jp jr hp hj
  rw[VT,VB,hH] at h1
  have h2:=hR.perm (h1.append_right F)
  rw[List.append_assoc] at h2
  exact h2.perm (Z_ _ _)
 refine wpIn_rangeFunc ?_
 intro fn WL
 obtain⟨rec,BY⟩:∃rec:LoopState -> Option Code -> Loop,rec=λ st pe=>{ state:=st,pending:=pe,fn,tmps:=a.tmps,params:=ps,assign,body,defers:=w.heap.size }:=⟨_,rfl⟩
 obtain⟨W1,VA⟩:∃W1,(w.alloc (.deferred (some []))).alloc (.loop (rec .ready none))=W1:=⟨_,rfl⟩
 have XG:Below 0 w W1:=by rw[<- VA];exact(fi _).trans (fi _)
 have VC:Rel ((w.heap.size+1,Blk.obj (.loop (rec .ready none)))::bn w.heap.size::((Hx x0++own)++(ap Hr Tr++F))) W1:=by
  rw[<- VA]
  have h1:=(VD.alloc (.obj (.deferred (some [])))).alloc (.obj (.loop (rec .ready none)))
  rw[World.size_alloc] at h1
  exact h1
 refine⟨w.heap.size+1,[coll w.heap.size],W1,{ target:=.fn (.func gf) lb,args:=#[.func (.yield (w.heap.size+1)) #[] #[]] },W1,gf,#[.func (.yield (w.heap.size+1)) #[] #[]]++lb,W1,?_,?_,?_,?_,λ h=>(by cases h),?_⟩
 ·rw[<- VA,BY];exact run_enterLoop_outer _ _ _ _ _
 ·have Vp:a.eval g=.func (.func gf) #[] lb:=(hF.eval hi).trans hg
  simp only[resolve,Vp]
  simp[Deferred.ofValue]
  rfl
 ·intro f' _;trivial
 ·simp[invoke,eg]
 ·refine iI ?_
  obtain⟨l,hl⟩:∃l,w.heap.size+1=l:=⟨_,rfl⟩
  rw[hl] at VC ⊢
  obtain⟨d,hd⟩:∃d,w.heap.size=d:=⟨_,rfl⟩
  rw[hd] at VC BY ⊢
  have key:=hit [] l (λ i H'=>∃s,I i s /\ H'=(l,Blk.obj (.loop (rec .ready none)))::bn d::Hx s) (λ H'=>∃c s,Ix c s /\ H'=(l,Blk.obj (.loop (rec .done (some c))))::bn d::Hx s)
   ((l,Blk.obj (.loop (rec .ready none)))::bn d::Hx x0) ?round ⟨x0,h0,rfl⟩ W1 VC
  case round =>
   rintro i x H' Y hx ⟨s,hs,rfl⟩ W aT
   have QM:Rel ((l,Blk.obj (.loop (rec .ready none)))::(bn d::(Hx s++(Y++(ap Hr Tr++F))))) W:=aT
   have hlW:W.heap[l]?=some (.loop (rec .ready none)):=QM.holds _ List.mem_cons_self
   have hy:=run_yield (P:=P) (args:=encs x) hlW (by rw[BY];exact Vf x)
   rw[BY] at hy
   refine⟨fn,_,assign,body,hy,roundIn_of_wpIn (F:=Wr none) (n:=0) WL ?_⟩
   have hFm:Fm N [] (mQ ps.toList (encs x).toList L) { tmps:=(ps.zip (encs x)).foldl (λ t (p,v)=>t.setIfInBounds p v) a.tmps,defers:=[] }:=by
    have h1:=Fm.zip (D:=[]) ps.toList (encs x).toList L a.tmps (λ p hp=>of_decide_eq_true (List.all_eq_true.1 RK p hp)) ⟨hF.size,rfl,hF.has⟩
    have e:(ps.zip (encs x)).foldl (λ t (p,v)=>t.setIfInBounds p v) a.tmps=(ps.toList.zip (encs x).toList).foldl (λ t (p,v)=>t.setIfInBounds p v) a.tmps:=by
     rw[<- Array.foldl_toList,Array.toList_zip]
    rw[e]
    exact h1
   have hRA:Rel (Hx s++(((l,Blk.obj (.loop (rec .ready none)))::bn d::Y)++(ap Hr Tr++F))) W:=by
    have:=QM
    refine this.perm ?_
    simp only[List.cons_append]
    refine List.perm_middle.trans ?_
    refine List.Perm.cons _ ?_
    exact List.perm_middle
   refine wpIn_mono (iD l i x s ((l,Blk.obj (.loop (rec .ready none)))::bn d::Y) W hx hs _ W hFm hRA (Below.refl _ _)) ?_
   intro e a1 Wa hq
   cases e with
   | normal =>
    obtain⟨t,ht,m1,m2,m3⟩:=hq
    have XD:Rel ((l,Blk.obj (.loop (rec .ready none)))::(bn d::(Ha t++(Y++(ap Hr Tr++F))))) Wa:=by
     refine m2.perm ?_
     simp only[List.cons_append]
     refine(List.Perm.trans ?_ List.perm_middle.symm)
     refine List.Perm.cons _ ?_
     exact List.perm_middle.symm
    have hla:Wa.heap[l]?=some (.loop (rec .ready none)):=XD.holds _ List.mem_cons_self
    refine⟨_,run_beginRound hla (by rw[BY]),?_⟩
    have hRc:=XD.putObj (F:=[]) (.obj (.loop { rec .ready none with state:=.busy }))
    have RS:Rel (Ha t++(((l,Blk.obj (.loop { rec .ready none with state:=.busy }))::bn d::Y)++(ap Hr Tr++F))) (Wa.putObj l (.loop { rec .ready none with state:=.busy })):=by
     refine hRc.perm ?_
     simp only[List.cons_append]
     refine List.perm_middle.trans ?_
     refine List.Perm.cons _ ?_
     exact List.perm_middle
    refine wpIn_mono (DO l i x t ((l,Blk.obj (.loop { rec .ready none with state:=.busy }))::bn d::Y) W hx ht a1 _ m1 RS (m3.trans (cw _ _))) ?_
    have fin:∀ (jump:Option Code) (s':σ) (W3:World),Rel (Hx s'++(((l,Blk.obj (.loop { rec .ready none with state:=.busy }))::bn d::Y)++(ap Hr Tr++F))) W3 -> Below 0 W W3 ->
      ∃v w',(Instr.endRound l jump).run P W3=.ok v w' /\ v=.bool jump.isNone /\ Rel (((l,Blk.obj (.loop (rec (if jump.isNone then .ready else .done) jump)))::bn d::Hx s')++(Y++([]++(ap Hr Tr++F)))) w' /\ Below 0 W w':=by
     intro jump s' W3 h3 XC
     have h4:Rel ((l,Blk.obj (.loop { rec .ready none with state:=.busy }))::(bn d::(Hx s'++(Y++(ap Hr Tr++F))))) W3:=by
      refine h3.perm ?_
      simp only[List.cons_append]
      refine(List.Perm.trans ?_ List.perm_middle.symm)
      refine List.Perm.cons _ ?_
      exact List.perm_middle.symm
     have RC:W3.heap[l]?=some (.loop { rec .ready none with state:=.busy }):=h4.holds _ List.mem_cons_self
     have f_:=run_endRound (P:=P) jump RC
     refine⟨_,_,f_,rfl,?_,XC.trans (cw _ _)⟩
     have h5:=h4.putObj (F:=[]) (.obj (.loop (rec (if jump.isNone then .ready else .done) jump)))
     rw[BY] at h5 ⊢
     exact h5
    intro e2 a2 W3 P_
    cases e2 with
    | normal =>
     obtain⟨s',QH,n2,n3⟩:=P_
     obtain⟨v,w',k1,k2,k3,k4⟩:=fin none s' W3 n2 n3
     exact⟨v,w',k1,true,_,by rw[k2];rfl,.inl ⟨rfl,s',QH,rfl⟩,k3,k4⟩
    | ret =>
     obtain⟨s',QH,n2,n3⟩:=P_
     obtain⟨v,w',k1,k2,k3,k4⟩:=fin (some .ret) s' W3 n2 n3
     exact⟨v,w',k1,false,_,by rw[k2];rfl,.inr ⟨rfl,.ret,s',QH,rfl⟩,k3,k4⟩
    | exit id =>
     obtain⟨s',QH,n2,n3⟩:=P_
     obtain⟨v,w',k1,k2,k3,k4⟩:=fin (some (.exit id)) s' W3 n2 n3
     exact⟨v,w',k1,false,_,by rw[k2];rfl,.inr ⟨rfl,.exit id,s',QH,rfl⟩,k3,k4⟩
    | goto t=>exact P_.elim
    | panic ch=>exact P_.elim
    | outgrown=>exact P_.elim
   | exit id=>exact hq.elim
   | goto t=>exact hq.elim
   | ret=>exact hq.elim
   | panic ch=>exact hq.elim
   | outgrown=>exact hq.elim
  refine key.mono ?_
  rintro e W2 ⟨v,H',rfl,hor,RT,S8⟩
  have fin:∀ (st:LoopState) (pe:Option Code) (s:σ) (T1:HL) (iS:st ≠ .busy),Rel ((((l,Blk.obj (.loop (rec st pe)))::bn d::Hx s)++T1)++([]++(ap Hr Tr++F))) W2 ->
    ∃w4,(Instr.endLoop l).run P W2=.ok pe w4 /\ Rel ((bn d::(Hx s++ap Hr (T1::Tr)))++F) w4 /\ Below 0 W1 w4:=by
   intro st pe s T1 iS h4
   have h5:Rel ((l,Blk.obj (.loop (rec st pe)))::(bn d::(Hx s++(ap Hr (T1::Tr)++F)))) W2:=h4.perm (((Z_ (Hx s) T1).symm.cons _).cons _)
   have QS:W2.heap[l]?=some (.loop (rec st pe)):=h5.holds _ List.mem_cons_self
   have f_:=run_endLoop (P:=P) QS (by rw[BY];exact iS)
   refine⟨W2.putObj l (.loop { rec st pe with state:=.exhausted }),?_,?_,S8.trans (cw _ _)⟩
   ·rw[f_,BY]
   ·have h6:=h5.putObj (F:=[]) (.obj (.loop { rec st pe with state:=.exhausted }))
    have h7:=Rel.drop (X:=[(l,Blk.obj (.loop { rec st pe with state:=.exhausted }))]) (H:=bn d::(Hx s++(ap Hr (T1::Tr)++F))) h6
    rw[<- List.append_assoc] at h7
    exact h7
  have XE:Fm N (coll d::D) L { a with defers:=[coll d]++a.defers }:=⟨hF.size,by rw[hF.defs];rfl,hF.has⟩
  rcases hor with ⟨H1,T1,rfl,⟨⟨s,hs,rfl⟩,hT⟩|⟨⟨c,s,hs,rfl⟩,hT⟩⟩
  ·obtain⟨w4,k1,k2,k3⟩:=fin .ready none s T1 (by simp) RT
   exact⟨none,w4,k1,C_ d s T1 hs hT _ w4 XE k2 (hB.trans (XG.trans k3))⟩
  ·obtain⟨w4,k1,k2,k3⟩:=fin .done (some c) s T1 (by simp) RT
   exact⟨some c,w4,k1,By d c s T1 hs hT _ w4 XE k2 (hB.trans (XG.trans k3))⟩
theorem z0{α σ τ:Type}{g:Operand}{ps:Array Tmp}{assign body:Code}{encs:α -> Array Value}{xs:List α}{gf:FuncId}{lb:Array Value}(hi:kJ L g=true)(hg:ie L g=.func (.func gf) #[] lb)(eg:∀args w,(callFunc gf args).run P w=.ok (.enter gf args) w)
  (Ax:σ -> HL) (Tx:σ -> List HL) (I:Nat -> σ -> Prop) (Ix:Code -> σ -> Prop) (La:τ -> FL) (Ha:τ -> HL) (Ia:Nat -> α -> τ -> Prop) (Vf:∀x,(encs x).size=ps.size) (RK:(ps.toList.all λ p=>decide (p<N))=true)
  (x0:σ) (h0:I 0 x0) {A:HL} {Ts:List HL} (ip ir jp jr:List Nat) (hp:(ip++ir).isPerm (List.range A.length)=true) (hj:(jp++jr).isPerm (List.range Ts.length)=true) (Hr:HL) (Tr:List HL) (VT:ir.filterMap (A[·]?)=Hr) (own:HL) {Te Tx':HL -> Prop} (VB:jr.filterMap (Ts[·]?)=own::Tr) (hA:ip.filterMap (A[·]?)=Ax x0) (hT:jp.filterMap (Ts[·]?)=Tx x0)
  (hit:PT P gf lb own (ap Hr Tr++F) encs xs Te Tx')
  (iD:∀ (l i:Nat) (x:α) (s:σ) (Y:HL) (w1:World),xs[i]?=some x -> I i s -> TR (some l) P N [] (Y++(ap Hr Tr++F)) w1 (mQ ps.toList (encs x).toList L) (ap (Ax s) (Tx s)) assign (Exit.then (Ja N [] (Y++(ap Hr Tr++F)) w1 La Ha (Ia i x)) (λ _ _ _=>False)))
  (DO:∀ (l i:Nat) (x:α) (t:τ) (Y:HL) (w1:World),xs[i]?=some x -> Ia i x t -> TR (some l) P N [] (Y++(ap Hr Tr++F)) w1 (La t) (Ha t) body (RQ (Y++(ap Hr Tr++F)) w1 (λ s=>ap (Ax s) (Tx s)) (I (i+1)) Ix))
  (C_:∀ (d:Nat) (s:σ) (T1:HL),I xs.length s -> Te T1 -> EX N (coll d::D) F w0 L (ap (bn d::(Ax s++Hr)) (Tx s++T1::Tr)) Q .normal)
  (By:∀ (d:Nat) (c:Code) (s:σ) (T1:HL),Ix c s -> Tx' T1 -> TR none P N (coll d::D) F w0 L (ap (bn d::(Ax s++Hr)) (Tx s++T1::Tr)) c Q) :
  TR none P N D F w0 L (ap A Ts) (.rangeFunc g ps assign body) Q:=by
 have Xs:∀ (d:Nat) (s:σ) (Tr:List HL),(ap (bn d::(Ax s++Hr)) (Tx s++Tr)).Perm (bn d::(ap (Ax s) (Tx s)++ap Hr Tr)):=λ d s Tr=>by
  show (bn d::((Ax s++Hr)++(Tx s++Tr).flatten)).Perm _
  refine List.Perm.cons _ ?_
  rw[List.flatten_append]
  show ((Ax s++Hr)++((Tx s).flatten++Tr.flatten)).Perm ((Ax s++(Tx s).flatten)++(Hr++Tr.flatten))
  rw[List.append_assoc,List.append_assoc]
  refine List.Perm.append_left _ ?_
  rw[<- List.append_assoc,<- List.append_assoc]
  exact List.Perm.append_right _ List.perm_append_comm
 exact DQ hi hg eg (λ s=>ap (Ax s) (Tx s)) I Ix La Ha Ia Vf RK x0 h0 ip ir jp jr hp hj Hr Tr VT own VB (by rw[hA,hT]) hit iD DO
  (λ d s T1 hs hT a w h1 h2 h3=>C_ d s T1 hs hT a w h1 (h2.perm ((Xs d s _).append_right F)) h3) (λ d c s T1 hs hT a w h1 h2 h3=>By d c s T1 hs hT a w h1 (h2.perm ((Xs d s _).append_right F)) h3)
end
section
variable {P:Program} {N:Nat} {D:List Deferred} {F:HL} {w0:World} {R:HL} {s:Cfg} {Q:Exit -> Act -> World -> Prop}
def KC(c:Fo)(d:Nat)(ip jp:List Nat)(A:HL)(Ts:List HL)(T1:HL)(s:Cfg):Cfg:=match s with
 | ⟨_,k,L,A',To⟩=>⟨c,k,L,bn d::(A++(oth ip A'.length).filterMap (A'[·]?)),Ts++T1::((oth jp To.length).filterMap (To[·]?)).tail⟩
theorem DS{α σ τ:Type}{encs:α -> Array Value}{xs:List α}{gf:FuncId}{lb:Array Value}(eg:∀args w,(callFunc gf args).run P w=.ok (.enter gf args) w)
  (S:σ -> HL × List HL) (I:Nat -> σ -> Prop) (Ix:Code -> σ -> Prop) (W:τ -> Inv) (Ia:Nat -> α -> τ -> Prop) (x0:σ) (h0:I 0 x0) (ip jp:List Nat)
  (own:HL) {Te Tx:HL -> Prop} (hit:PT P gf lb own (ap (dF ip s) (ez jp s).tail++F) encs xs Te Tx)
  (iD:∀ (l i:Nat) (x:α) (s1:σ) (Y:HL) (w1:World),xs[i]?=some x -> I i s1 ->
   (∀ {s':Cfg} {R':HL} (t:τ) (Ud Uc:List Nat),Ia i x t -> (hm:Cv s'=some (MV N [] (Y++(ap (dF ip s) (ez jp s).tail++F)) w1 W (Ia i x)):=by kernel_rfl) -> (h:uA (W t) Ud Uc s'=nG (W t):=by kernel_rfl) -> (hp:bI Ud Uc s'=true:=by kernel_rfl) -> RN (some l) P N [] (Y++(ap (dF ip s) (ez jp s).tail++F)) w1 R' s' (λ _ _ _=>False)) ->
   RN (some l) P N [] (Y++(ap (dF ip s) (ez jp s).tail++F)) w1 (dF ip s++R) (L2 (MV N [] (Y++(ap (dF ip s) (ez jp s).tail++F)) w1 W (Ia i x)) (encs x).toList (S s1).1 (S s1).2 s) (λ _ _ _=>False))
  (DO:∀ (l i:Nat) (x:α) (t:τ) (Y:HL) (w1:World),xs[i]?=some x -> Ia i x t -> RN (some l) P N [] (Y++(ap (dF ip s) (ez jp s).tail++F)) w1 (dF ip s++R) (L3 (W t) s) (RQ (Y++(ap (dF ip s) (ez jp s).tail++F)) w1 (λ s=>ap (S s).1 (S s).2) (I (i+1)) Ix))
  (C_:∀ (d:Nat) (s1:σ) (T1:HL),I xs.length s1 -> Te T1 -> RN none P N (coll d::D) F w0 R (KC (.ex .normal) d ip jp (S s1).1 (S s1).2 T1 s) Q)
  (By:∀ (d:Nat) (c:Code) (s1:σ) (T1:HL),Ix c s1 -> Tx T1 -> RN none P N (coll d::D) F w0 R (KC (.code c) d ip jp (S s1).1 (S s1).2 T1 s) Q)
  (RK:CI N s=true:=by kernel_rfl) (hp:bI ip jp s=true:=by kernel_rfl) (hH:picks ip jp s=((S x0).1,(S x0).2):=by kernel_rfl) (ho:(ez jp s).head?=some own:=by kernel_rfl) (hG:(ii s).map (·.1)=some (.func (.func gf) #[] lb):=by kernel_rfl) (I_:∀x:α,(ii s).map (·.2)=some (encs x).size:=by intro x;kernel_rfl):RN none P N D F w0 R s Q:=by
 refine⟨λ hR=>?_⟩
 obtain⟨c,k,L,A,Ts⟩:=s
 unfold bI at hp
 unfold picks at hH
 rw[Bool.and_eq_true] at hp
 simp only[Prod.mk.injEq] at hH
 cases c with
 | ops _ _=>simp[ii] at hG
 | ex _=>simp[ii] at hG
 | drw _ _=>simp[ii] at hG
 | code c =>
 cases c with
 | rangeFunc g ps assign body =>
  have hi:kJ L g=true:=by
   cases h:kJ L g with
   | true=>rfl
   | false=>simp[ii,h] at hG
  simp only[ii,hi,Option.map_some,Option.some.injEq] at hG I_
  simp only[CI] at RK
  have UQ:∀ (Y:HL),∀y∈dF ip ⟨.code (.rangeFunc g ps assign body),k,L,A,Ts⟩++R,y∈Y++(ap (dF ip ⟨.code (.rangeFunc g ps assign body),k,L,A,Ts⟩) (ez jp ⟨.code (.rangeFunc g ps assign body),k,L,A,Ts⟩).tail++F):=by
   intro Y y hy
   rcases List.mem_append.1 hy with hy|hy
   ·exact List.mem_append_right _ (List.mem_append_left _ (List.mem_append_left _ hy))
   ·exact List.mem_append_right _ (List.mem_append_right _ (hR y hy))
  have AT:(oth jp Ts.length).filterMap (Ts[·]?)=own::((oth jp Ts.length).filterMap (Ts[·]?)).tail:=by
   have h1:((oth jp Ts.length).filterMap (Ts[·]?)).head?=some own:=ho
   generalize (oth jp Ts.length).filterMap (Ts[·]?)=l at h1 ⊢
   cases l with
   | nil=>cases h1
   | cons x l=>simp only[List.head?_cons,Option.some.injEq] at h1;rw[h1];rfl
  exact z0 (assign:=assign) (body:=body) hi hG eg (λ s=>(S s).1) (λ s=>(S s).2) I Ix (λ t=>(W t).L) (λ t=>ap (W t).A (W t).Ts) Ia (λ x=>(I_ x).symm) RK x0 h0 ip (oth ip A.length) jp (oth jp Ts.length) hp.1 hp.2 _ _ rfl own AT hH.1 hH.2 hit
   (λ l i x s1 Y w1 hx hi=>(iD l i x s1 Y w1 hx hi (λ t Ud Uc ht hm h hp=>qf t Ud Uc ht hm h hp)).h (UQ Y))
   (λ l i x t Y w1 hx ht=>(DO l i x t Y w1 hx ht).h (UQ Y))
   (λ d s1 T1 hs hT=>(C_ d s1 T1 hs hT).h hR) (λ d c s1 T1 hs hT=>(By d c s1 T1 hs hT).h hR)
 | _=>simp[ii] at hG
def mkC(i:Nat)(s:Cfg):Cfg:=match s with
 | ⟨c,k,L,A,Ts⟩=>⟨c,k,L,(oth [i] A.length).filterMap (A[·]?),Ts⟩
theorem LV.mark{fn:Func}{R':Value -> HL -> Prop}{d:Nat}(i:Nat)(hk:LV P N D F w0 R fn R' (mkC i s))(h:((s.A[i]?),([i]++oth [i] s.A.length).isPerm (List.range s.A.length))=(some (bn d),true):=by kernel_rfl):LV P N (coll d::D) F w0 R fn R' s:=by
 simp only[Prod.mk.injEq] at h
 refine⟨λ hR a w hF aT hB=>?_⟩
 obtain⟨c,k,L,A,Ts⟩:=s
 simp only at h hF aT
 have hp:=fH A [i] (oth [i] A.length) h.2
 simp only[List.filterMap_cons,h.1,List.filterMap_nil,List.cons_append,List.nil_append] at hp
 have h1:Rel ((d,Blk.obj (.deferred (some [])))::(ap ((oth [i] A.length).filterMap (A[·]?)) Ts++F)) w:=by
  refine aT.perm ?_
  have h2:(bn d::ap ((oth [i] A.length).filterMap (A[·]?)) Ts).Perm (ap A Ts):=List.Perm.append_right Ts.flatten hp
  exact h2.append_right F
 have hd:w.heap[d]?=some (.deferred (some [])):=h1.holds (bn d) (by simp)
 have h2:=(h1.putObj (F:=[]) (.obj (.deferred none)))
 rw[hF.defs]
 refine⟨by simp,.inl ⟨d,_,rfl,run_takeDeferred hd,?_⟩⟩
 exact hk.h hR { a with defers:=D } _ ⟨hF.size,rfl,hF.has⟩ (Rel.drop (X:=[(d,Blk.obj (.deferred none))]) h2) (hB.trans (cw _ _))
end
theorem Hu(c0 c1 c2 c3 c4:Value)(F:HL):SpD Tryz.prog 102 #[c0,c1,c2,c3,c4] [] F (λ _ H'=>H'=[]):=by
 intro w hR
 refine callsDIn_of_wpSIn (F:=Wr none) (n:=0) Tryz.func102 rfl trivial λ c₀ cs hu=>?_
 have hrc:recoverD (c₀::cs)=none:=by simp[recoverD,hu]
 refine wpSIn_seq (wpSIn_region ?_)
 show wpOpsSIn _ _ _ _ _ [0,1] _ _ _
 simp only[wpOpsSIn,List.getElem?_toArray,List.getElem?_cons_zero,List.getElem?_cons_succ]
 simp[wpOpsSIn,go_sem,hrc,Tryz.ntmps102,Exit.thenS]
 refine wpSIn_cond (t:=false) (by simp[Act.eval,Array.replicate]) ?_
 refine wpSIn_of_wpIn rfl ?_
 refine wpIn_skip ?_
 simp[bodyPostS,results,Tryz.results102,hu]
 exact⟨.returning,by cases c₀;simp at hu;subst hu;rfl,hu ▸ rfl,hR,Below.refl _ _⟩
abbrev gA(S:Setup)(j:Nat × Int)(n:Nat)(xs:List Inp):Gm:=⟨S,none,cE j.1,0,bz j.1 0,bz j.1 1,bz j.1 2,j.2,0,0,n,0,0,xs,fO j.1⟩
def AtOk(F:HL)(bp:Nat)(t:Int)(j:Nat × Int):Prop:=∀F',(∀x∈F,x∈F') -> Sp Tryz.prog 124 #[vP bp 0,vI t] (ap [] []) F' (λ u H'=>∃x:Option Addr × Nat × HL,H'=ap [] [x.2.2] /\ (u=.tuple #[vI j.2,.agg #[.slice x.1 (cE j.1) x.2.1,vI (bz j.1 0),vI (bz j.1 1),vI (bz j.1 2)]] /\ ClS ij 155 (fO j.1) x.1 x.2.1 x.2.2))
theorem AtOk.mono{F F':HL}{bp:Nat}{t:Int}{j:Nat × Int}(h:AtOk F bp t j)(hs:∀x∈F,x∈F'):AtOk F' bp t j:=λ F2 h2=>h F2 λ x hx=>h2 x (hs x hx)
abbrev O8(x:Eff × Bool):Array Value:=#[.agg #[vI x.1.t,vI x.1.i,vI x.1.k,vI x.1.v,.bool x.2]]
theorem ClS.code{j:Nat}(hj:j<5){A:Option Addr}{c:Nat}{Hl F:HL}(h:ClS ij 155 (fO j) A c Hl)(hF:∀x∈Hl,x∈F):CodeIn F (fO j) A (cE j):=by
 have hl:=lF hj
 have hb:=qx hj
 obtain⟨A0,h⟩:=h
 rcases h with ⟨h1,rfl,rfl,rfl⟩|⟨b,rfl,rfl,h3⟩
 ·rw[h1] at hl
  rw[<- hl]
  exact .nil _
 ·exact .mk b c _ (hF _ (List.mem_singleton.2 rfl)) (by rw[<- hl];exact h3) (by omega)
theorem vp{S:Setup}{A:Option Addr}{j:Nat × Int}{c ib io n ic N:Nat}{full xs:List Inp}(hx:∀k,k<n -> full.getD (io+k) dI=xs.getD k dI):GEq ⟨S,A,cE j.1,c,bz j.1 0,bz j.1 1,bz j.1 2,j.2,ib,io,n,ic,N,full,fO j.1⟩ (gA S j n xs) :=
 ⟨rfl,λ k hk=>(hx k hk).trans (by rw[Nat.zero_add])⟩
theorem ol{g g0:Gm}(e:GEq g g0)(mb:Nat)(M:MemS)(k:Nat)(T F:HL)(hM:MemH mb M (k+20) T)(hg:GmIn F g)(h0:Ft M)(Zc:Int)(X5:g.version=Zc):Sp Tryz.prog 125 #[.iface 96 (vP mb 0),.agg #[vI g.S.players,vS g.S.bb (g.S.bo * 9) g.S.nb g.S.bc,vI g.S.box.x0,vI g.S.box.y0,vI g.S.box.x1,vI g.S.box.y1,.slice g.S.rA g.S.rn g.S.rc,.slice g.S.dA g.S.dn g.S.dc,vI g.S.fog,vI g.S.g.x,vI g.S.g.y,vI g.S.push,vI g.S.drag,vI g.S.rest,vI g.S.rounds,vI g.S.fuel],.agg #[.slice g.cA g.cn g.cc,vI g.e0,vI g.e1,vI g.e2],vI Zc,vS g.ib (g.io * 3) g.ni g.ic] (ap [] [T]) F (λ u H'=>∃x,H'=ap [] [x] /\ (MemH mb (kQ g0 M) k x /\ u=.tuple #[.bool (jc g0 M),.agg #[vI ((eU g0 M).e.t),vI ((eU g0 M).e.i),vI ((eU g0 M).e.k),vI ((eU g0 M).e.v)],.bool ((eU g0 M).em)])):=by
 have h:=CU g mb M k T F hM hg h0 Zc X5
 rwa [kQ,FG e,zl e] at h
theorem KD(S:Setup)(bp gb mb q1 q2 ib io N ni ic m k:Nat)(j:Nat × Int)(full xs:List Inp)(M:MemS)(F:HL)(hj:j.1<5)(hA:AtOk F bp (M.get 0) j)(hg:(gb,.lit (dY S bp mb) 140 (0,0))∈F)(h1:(q1,.lit [vP gb 0] 83 (0,0))∈F)(h2:(q2,.lit [vS ib (io * 3) ni ic] 54 (0,0))∈F)(hS:SetIn F S)(hE:cX F)(hI:(ib,.rows 3 N (fS full) 119 (0,0))∈F)(hir:io+ni <= N /\ ni <= 1000000)(hx:∀k,k<ni -> full.getD (io+k) dI=xs.getD k dI)(T:HL)(hM:MemH mb M (k+20 * m+20) T)(h0:0 <= M.get 0)(Sg:dP (gA S j ni xs) (m+1) M)(lp:Nat)(X:HL)(J:Nat -> HL -> Prop)(Jx:HL -> Prop)(T0:HL)(hY:∀i x H Y,(iW (gA S j ni xs) (m+1) M)[i]?=some x -> J i H -> YL Tryz.prog lp (O8 x) H (Y++(X++F)) (λ b H'=>(b=true /\ J (i+1) H') \/ (b=false /\ Jx H')))(Si:J 0 T0):Sp Tryz.prog 123 #[.func (.yield lp) #[] #[],vP q1 0,vP q2 0] (ap [] [T0,T]) (X++F) (λ _ H'=>∃x:HL × HL,H'=ap [] [x.1,x.2] /\ ((J (iW (gA S j ni xs) (m+1) M).length x.1 /\ MemH mb (gm (gA S j ni xs) (m+1) M) k x.2) \/ Jx x.1)):=by
 have Tk:=List.mem_append_right X hg
 have W6:=List.mem_append_right X h1
 have Q1:=List.mem_append_right X h2
 have hS_:SetIn (X++F) S:=hS.up
 have XF:cX (X++F):=List.mem_append_right X hE
 have Tm:=List.mem_append_right X hI
 have hA_:AtOk (X++F) bp (M.get 0) j:=hA.mono λ x hx=>List.mem_append_right X hx
 refine Sp.run Tryz.func123 rfl (mc Tk (mc W6 (mc Q1 mn))) (A:=[]) (Ts:=[T0,T]) rfl λ w0=>?_
 refine ae 1 [] λ _=>RN.draw [12] []<|ag [] [0,4,1,2,3] [.ro 1,.ro 1,.ro 0]<|RD.cp [] 5 (λ X_=>(xc S bp gb mb M (k+20 * m+20) T _ (oB Tk) hM (aR 1)))<|fQ 6 10 ?_ ?_
 ·refine RDO.ct [] (Hp:=[]) (Tp:=[]) [] [] (hA_ _ (λ x hx=>ar hx)) ?_
  rintro _ ⟨A1,c2,T3⟩ ⟨rfl,YF⟩
  dsimp only at YF
  refine ag [] [7,8,9] []<|RD.one 10 (RDO.ev [] [] λ n5=>?_)
  refine ag [] [11] []<|RD.one 12 (RDO.ev [] [.own 0,.own 0,.own 0,.own 0] λ _=>?_)
  refine RD.fin<|ae 2 [] λ _=>RN.loop (σ:=Nat × Nat × MemS × HL × HL) (λ ⟨r,i_,M_,T_,J_⟩=>⟨[(0,.func (.yield lp) #[] #[]),(1,vP q1 0),(2,vP q2 0),(4,vI j.2),(5,vP (n5+0) 0)],[((n5+0),.lit [.slice A1 (cE j.1) c2,vI (bz j.1 0),vI (bz j.1 1),vI (bz j.1 2)] 109 (0,0))],[T_,J_,T3],i_+(r+1)=m+1 /\ dP (gA S j ni xs) (r+1) M_ /\ gm (gA S j ni xs) (r+1) M_=gm (gA S j ni xs) (m+1) M /\ MemH mb M_ (k+20 * r+20) T_ /\ (iW (gA S j ni xs) (m+1) M).drop i_=iW (gA S j ni xs) (r+1) M_ /\ J i_ J_,r⟩) (m,0,M,T,T0) [0] [2,1,0] (⟨by omega,Sg,rfl,hM,rfl,Si⟩) ?_
  rintro⟨r,i_,M_,T_,J_⟩ ⟨hd_,AS,Q5,S6,Sw,QQ⟩ V5
  refine ae 2 [] λ _=>RN.draw [12,19] []<|ag [] [0,5,9,10,11,1,6,2,7,3,8,4] [.ro 1,.ro 1,.own 0,.own 0,.own 0,.own 0,.ro 2,.ro 0,.ro 0,.ro 0,.ro 0,.ro 0,.ro 0,.ro 0,.ro 0,.ro 0,.ro 0,.ro 0,.ro 0,.ro 0,.ro 0,.ro 0,.ro 0,.ro 0]<|fQ 12 17 ?_ ?_
  ·refine RDO.ct [] [] [0] (ol (g:=(⟨S,A1,cE j.1,c2,bz j.1 0,bz j.1 1,bz j.1 2,j.2,ib,io,ni,ic,N,full,fO j.1⟩:Gm)) (vp hx) mb M_ (k+20 * r) T_ _ S6 ⟨hS_.up,ar Tm,hir,ar XF,YF.code hj (aq 1)⟩ AS.1 j.2 rfl) ?_
   rintro _ T8 ⟨UB,rfl⟩
   refine ag [] [13,14,15,16] []<|RD.one 17 (RDO.ev [] [] λ R3=>?_)
   refine ag [] [18] []<|RD.one 19 (RDO.ev [] [.own 0,.own 0,.own 0,.own 0] λ _=>?_)
   refine ag [] [20] []<|RD.fin<|ae 7 [.own 0,.own 0,.own 0,.own 0] λ _=>RN.yield 1 (hY i_ ((eU (gA S j ni xs) M_).e,(eU (gA S j ni xs) M_).em) _ _ (gI Sw).1 QQ) ?_
   rintro b_ No (⟨rfl,S7⟩|⟨rfl,S7⟩)
   ·refine ae 6 [] λ _=>jl (jc (gA S j ni xs) M_) 44 (λ Sc=>?_) λ Sc=>?_
    ·refine ae 1 [] λ _=>RN.ret [] [] [0,1] (v:=.tuple #[]) (H':=(ap [] [No,T8])) ?_
     have er:r=0:=by
      rcases AS.2 with ⟨e,_⟩|⟨e,_⟩
      ·exact e
      ·have hh:jc (gA S j ni xs) M_=true:=by assumption
       rw[e] at hh;cases hh
     subst er
     have ed:i_+1=(iW (gA S j ni xs) (m+1) M).length:=by rw[iX];omega
     refine⟨(No,T8),rfl,.inl ⟨?_,?_⟩⟩
     ·rw[<- ed];exact S7
     ·rw[<- Q5];exact UB.weak (by omega)
    ·refine ae 3 [] λ _=>?_
     have Ss:=AS.2
     rcases Ss with ⟨_,e_⟩|⟨_,Ss⟩
     ·exact absurd e_ (by assumption)
     rcases r with _|r
     ·exact Ss.elim
     refine V5 (r,i_+1,(kQ (gA S j ni xs) M_),T8,No) [1] [1,0,2] ?_
     try dsimp only
     exact⟨⟨by omega,Ss,Q5,UB.weak (by omega),(gI Sw).2,S7⟩,by omega⟩
   ·refine ae 7 [] λ _=>RN.ret [] [] [0,1] (v:=.tuple #[]) (H':=(ap [] [No,T8])) ?_
    exact⟨(No,T8),rfl,.inr S7⟩
  ·refine RDO.ev [] [] λ ZF=>RD.one 12 (RDO.ct [] [] [0] (ol (g:=(⟨S,A1,cE j.1,c2,bz j.1 0,bz j.1 1,bz j.1 2,j.2,ib,io,ni,ic,N,full,fO j.1⟩:Gm)) (vp hx) mb M_ (k+20 * r) T_ _ S6 ⟨hS_.up,ar Tm,hir,ar XF,YF.code hj (aq 1)⟩ AS.1 j.2 rfl) ?_)
   rintro _ Sk ⟨R_,rfl⟩
   refine ag [] [13,14,15,16,18] []<|RD.one 19 (RDO.ev [] [.own 0,.own 0,.own 0,.own 0] λ _=>?_)
   refine ag [] [20] []<|RD.fin<|ae 7 [.own 0,.own 0,.own 0,.own 0] λ _=>RN.yield 1 (hY i_ ((eU (gA S j ni xs) M_).e,(eU (gA S j ni xs) M_).em) _ _ (gI Sw).1 QQ) ?_
   rintro b_ Sj (⟨rfl,WY⟩|⟨rfl,WY⟩)
   ·refine ae 6 [] λ _=>jl (jc (gA S j ni xs) M_) 44 (λ VX=>?_) λ VX=>?_
    ·refine ae 1 [] λ _=>RN.ret [] [] [0,1] (v:=.tuple #[]) (H':=(ap [] [Sj,Sk])) ?_
     have er:r=0:=by
      rcases AS.2 with ⟨e,_⟩|⟨e,_⟩
      ·exact e
      ·have hh:jc (gA S j ni xs) M_=true:=by assumption
       rw[e] at hh;cases hh
     subst er
     have ed:i_+1=(iW (gA S j ni xs) (m+1) M).length:=by rw[iX];omega
     refine⟨(Sj,Sk),rfl,.inl ⟨?_,?_⟩⟩
     ·rw[<- ed];exact WY
     ·rw[<- Q5];exact R_.weak (by omega)
    ·refine ae 3 [] λ _=>?_
     have Ss:=AS.2
     rcases Ss with ⟨_,e_⟩|⟨_,Ss⟩
     ·exact absurd e_ (by assumption)
     rcases r with _|r
     ·exact Ss.elim
     refine V5 (r,i_+1,(kQ (gA S j ni xs) M_),Sk,Sj) [1] [1,0,2] ?_
     try dsimp only
     exact⟨⟨by omega,Ss,Q5,R_.weak (by omega),(gI Sw).2,WY⟩,by omega⟩
   ·refine ae 7 [] λ _=>RN.ret [] [] [0,1] (v:=.tuple #[]) (H':=(ap [] [Sj,Sk])) ?_
    exact⟨(Sj,Sk),rfl,.inr WY⟩
 ·refine RDO.ev [] [] λ XU=>RD.one 6 (RDO.ct [] (Hp:=[]) (Tp:=[]) [] [] (hA_ _ (λ x hx=>ar hx)) ?_)
  rintro _ ⟨A21,c22,T23⟩ ⟨rfl,YG⟩
  dsimp only at YG
  refine ag [] [7,8,9,11] []<|RD.one 12 (RDO.ev [] [.own 0,.own 0,.own 0,.own 0] λ _=>?_)
  refine RD.fin<|ae 2 [] λ _=>RN.loop (σ:=Nat × Nat × MemS × HL × HL) (λ ⟨r,i_,M_,T_,J_⟩=>⟨[(0,.func (.yield lp) #[] #[]),(1,vP q1 0),(2,vP q2 0),(4,vI j.2),(5,vP (XU+0) 0)],[((XU+0),.lit [.slice A21 (cE j.1) c22,vI (bz j.1 0),vI (bz j.1 1),vI (bz j.1 2)] 109 (0,0))],[T_,J_,T23],i_+(r+1)=m+1 /\ dP (gA S j ni xs) (r+1) M_ /\ gm (gA S j ni xs) (r+1) M_=gm (gA S j ni xs) (m+1) M /\ MemH mb M_ (k+20 * r+20) T_ /\ (iW (gA S j ni xs) (m+1) M).drop i_=iW (gA S j ni xs) (r+1) M_ /\ J i_ J_,r⟩) (m,0,M,T,T0) [0] [2,1,0] (⟨by omega,Sg,rfl,hM,rfl,Si⟩) ?_
  rintro⟨r,i_,M_,T_,J_⟩ ⟨hd_,AS,Q5,S6,Sw,QQ⟩ Wo
  refine ae 2 [] λ _=>RN.draw [12,19] []<|ag [] [0,5,9,10,11,1,6,2,7,3,8,4] [.ro 1,.ro 1,.own 0,.own 0,.own 0,.own 0,.ro 2,.ro 0,.ro 0,.ro 0,.ro 0,.ro 0,.ro 0,.ro 0,.ro 0,.ro 0,.ro 0,.ro 0,.ro 0,.ro 0,.ro 0,.ro 0,.ro 0,.ro 0]<|fQ 12 17 ?_ ?_
  ·refine RDO.ct [] [] [0] (ol (g:=(⟨S,A21,cE j.1,c22,bz j.1 0,bz j.1 1,bz j.1 2,j.2,ib,io,ni,ic,N,full,fO j.1⟩:Gm)) (vp hx) mb M_ (k+20 * r) T_ _ S6 ⟨hS_.up,ar Tm,hir,ar XF,YG.code hj (aq 1)⟩ AS.1 j.2 rfl) ?_
   rintro _ Uo ⟨R9,rfl⟩
   refine ag [] [13,14,15,16] []<|RD.one 17 (RDO.ev [] [] λ n29=>?_)
   refine ag [] [18] []<|RD.one 19 (RDO.ev [] [.own 0,.own 0,.own 0,.own 0] λ _=>?_)
   refine ag [] [20] []<|RD.fin<|ae 7 [.own 0,.own 0,.own 0,.own 0] λ _=>RN.yield 1 (hY i_ ((eU (gA S j ni xs) M_).e,(eU (gA S j ni xs) M_).em) _ _ (gI Sw).1 QQ) ?_
   rintro b_ Zx (⟨rfl,WX⟩|⟨rfl,WX⟩)
   ·refine ae 6 [] λ _=>jl (jc (gA S j ni xs) M_) 44 (λ VW=>?_) λ VW=>?_
    ·refine ae 1 [] λ _=>RN.ret [] [] [0,1] (v:=.tuple #[]) (H':=(ap [] [Zx,Uo])) ?_
     have er:r=0:=by
      rcases AS.2 with ⟨e,_⟩|⟨e,_⟩
      ·exact e
      ·have hh:jc (gA S j ni xs) M_=true:=by assumption
       rw[e] at hh;cases hh
     subst er
     have ed:i_+1=(iW (gA S j ni xs) (m+1) M).length:=by rw[iX];omega
     refine⟨(Zx,Uo),rfl,.inl ⟨?_,?_⟩⟩
     ·rw[<- ed];exact WX
     ·rw[<- Q5];exact R9.weak (by omega)
    ·refine ae 3 [] λ _=>?_
     have Ss:=AS.2
     rcases Ss with ⟨_,e_⟩|⟨_,Ss⟩
     ·exact absurd e_ (by assumption)
     rcases r with _|r
     ·exact Ss.elim
     refine Wo (r,i_+1,(kQ (gA S j ni xs) M_),Uo,Zx) [1] [1,0,2] ?_
     try dsimp only
     exact⟨⟨by omega,Ss,Q5,R9.weak (by omega),(gI Sw).2,WX⟩,by omega⟩
   ·refine ae 7 [] λ _=>RN.ret [] [] [0,1] (v:=.tuple #[]) (H':=(ap [] [Zx,Uo])) ?_
    exact⟨(Zx,Uo),rfl,.inr WX⟩
  ·refine RDO.ev [] [] λ n33=>RD.one 12 (RDO.ct [] [] [0] (ol (g:=(⟨S,A21,cE j.1,c22,bz j.1 0,bz j.1 1,bz j.1 2,j.2,ib,io,ni,ic,N,full,fO j.1⟩:Gm)) (vp hx) mb M_ (k+20 * r) T_ _ S6 ⟨hS_.up,ar Tm,hir,ar XF,YG.code hj (aq 1)⟩ AS.1 j.2 rfl) ?_)
   rintro _ Xb ⟨WT,rfl⟩
   refine ag [] [13,14,15,16,18] []<|RD.one 19 (RDO.ev [] [.own 0,.own 0,.own 0,.own 0] λ _=>?_)
   refine ag [] [20] []<|RD.fin<|ae 7 [.own 0,.own 0,.own 0,.own 0] λ _=>RN.yield 1 (hY i_ ((eU (gA S j ni xs) M_).e,(eU (gA S j ni xs) M_).em) _ _ (gI Sw).1 QQ) ?_
   rintro b_ Y1 (⟨rfl,WW⟩|⟨rfl,WW⟩)
   ·refine ae 6 [] λ _=>jl (jc (gA S j ni xs) M_) 44 (λ h38=>?_) λ h38=>?_
    ·refine ae 1 [] λ _=>RN.ret [] [] [0,1] (v:=.tuple #[]) (H':=(ap [] [Y1,Xb])) ?_
     have er:r=0:=by
      rcases AS.2 with ⟨e,_⟩|⟨e,_⟩
      ·exact e
      ·have hh:jc (gA S j ni xs) M_=true:=by assumption
       rw[e] at hh;cases hh
     subst er
     have ed:i_+1=(iW (gA S j ni xs) (m+1) M).length:=by rw[iX];omega
     refine⟨(Y1,Xb),rfl,.inl ⟨?_,?_⟩⟩
     ·rw[<- ed];exact WW
     ·rw[<- Q5];exact WT.weak (by omega)
    ·refine ae 3 [] λ _=>?_
     have Ss:=AS.2
     rcases Ss with ⟨_,e_⟩|⟨_,Ss⟩
     ·exact absurd e_ (by assumption)
     rcases r with _|r
     ·exact Ss.elim
     refine Wo (r,i_+1,(kQ (gA S j ni xs) M_),Xb,Y1) [1] [1,0,2] ?_
     try dsimp only
     exact⟨⟨by omega,Ss,Q5,WT.weak (by omega),(gI Sw).2,WW⟩,by omega⟩
   ·refine ae 7 [] λ _=>RN.ret [] [] [0,1] (v:=.tuple #[]) (H':=(ap [] [Y1,Xb])) ?_
    exact⟨(Y1,Xb),rfl,.inr WW⟩
theorem M7(S:Setup)(bp gb mb q1 q2 ib io N ni ic m k:Nat)(j:Nat × Int)(full xs:List Inp)(M:MemS)(F:HL)(hj:j.1<5)(hA:AtOk F bp (M.get 0) j)(hg:(gb,.lit (dY S bp mb) 140 (0,0))∈F)(h1:(q1,.lit [vP gb 0] 83 (0,0))∈F)(h2:(q2,.lit [vS ib (io * 3) ni ic] 54 (0,0))∈F)(hS:SetIn F S)(hE:cX F)(hI:(ib,.rows 3 N (fS full) 119 (0,0))∈F)(hir:io+ni <= N /\ ni <= 1000000)(hx:∀k,k<ni -> full.getD (io+k) dI=xs.getD k dI)(T:HL)(hM:MemH mb M (k+20 * m+20) T)(h0:0 <= M.get 0)(Sg:dP (gA S j ni xs) (m+1) M):PT Tryz.prog 123 #[vP q1 0,vP q2 0] T F O8 (iW (gA S j ni xs) (m+1) M) (λ T1=>MemH mb (gm (gA S j ni xs) (m+1) M) k T1) (λ _=>True):=by
 intro X l J Jx H0 hY h0'
 have e:∀A B:HL,ap [] [A,B]=A++B:=λ A B=>by simp[ap]
 have key:=KD S bp gb mb q1 q2 ib io N ni ic m k j full xs M F hj hA hg h1 h2 hS hE hI hir hx T hM h0 Sg l X J Jx H0 hY h0'
 rw[e] at key
 refine key.mono λ u H' h=>?_
 obtain⟨x,rfl,h⟩:=h
 refine⟨x.1,x.2,e _ _,?_⟩
 rcases h with ⟨a,b⟩|a
 ·exact .inl ⟨a,b⟩
 ·exact .inr ⟨a,trivial⟩
theorem Hv(e:Int)(S:Setup)(bp gb mb:Nat)(M:MemS)(k:Nat)(A:Option Addr)(n cap:Nat)(xs:List Inp)(T F:HL)(hg:(gb,.lit (dY S bp mb) 140 (0,0))∈F)(hM:MemH mb M k T)(hT:∀x∈T,x∈F)(hl:RowL ep 119 F A n xs)(hn:n <= 1000000)(he:fF S.players n xs (M.get 0)=e):Sp Tryz.prog 101 #[vP gb 0,.slice A n cap] [] F (λ u H'=>u=vI e /\ H'=[]):=he ▸ zC S bp gb mb M k A n cap xs T F hg hM hT hl hn
theorem Hw(c0 c1 c2 c3 c4:Value)(F:HL):SpD Tryz.prog 102 #[c0,c1,c2,c3,c4] (ap [] []) F (λ _ H'=>∃_:Unit,H'=ap [] [] /\ True):=by
 exact(Hu c0 c1 c2 c3 c4 F).mono λ u H' h=>⟨(),h,trivial⟩
theorem Hy(S:Setup)(rs:List Bx)(ds:List Dr)(bp gb mb ib io N ni ic m k:Nat)(j:Nat × Int)(full xs:List Inp)(M:MemS)(T U F:HL)(hj:j.1<5)(hA:AtOk F bp (M.get 0) j)(hU:rh S rs ds U)(hE:cX F)(hI:(ib,.rows 3 N (fS full) 119 (0,0))∈F)(hir:io+ni <= N)(Th:ni <= 1000000)(hmb:m <= 1000000)(hlen:xs.length=ni)(hx:∀k,k<ni -> full.getD (io+k) dI=xs.getD k dI)(hM:MemH mb M (k+20 * m+20) T)(h0:0 <= M.get 0)(Sg:dP (gA S j ni xs) (m+1) M)(hw:fF S.players ni xs (M.get 0)=0):Sp Tryz.prog 70 #[vP gb 0,vS ib (io * 3) ni ic] (ap [(gb,.lit (dY S bp mb) 140 (0,0))] [T,U]) F (λ u H'=>∃x:HL × Option Addr × Nat × HL,H'=ap [(gb,.lit (dY S bp mb) 140 (0,0))] [x.1,U,x.2.2.2] /\ (MemH mb (gm (gA S j ni xs) (m+1) M) k x.1 /\ SlIs wq 197 (fK (gA S j ni xs) (m+1) M) x.2.1 x.2.2.1 x.2.2.2 /\ u=.tuple #[.slice x.2.1 (fK (gA S j ni xs) (m+1) M).length x.2.2.1,vI ((m+1:Nat):Int),vI 0])):=by
 have hl:RowL ep 119 F (some ⟨ib,io * 3,none⟩) ni xs:=.rows ib io N full (0,0) ni xs hI hir hlen hx
 have Wh:=hM
 refine Sp.runM Tryz.func70 rfl mn (A:=[(gb,.lit (dY S bp mb) 140 (0,0))]) (Ts:=[T,U]) rfl λ w0=>?_
 refine ae 13 [.own 3] λ n1=>RN.cp (Hv 0 S bp gb mb M (k+20 * m+20) (some ⟨ib,io * 3,none⟩) ni ic xs T _ (av 4) hM (aq 0) hl.up Th hw)<|ae 18 [.own 3,.own 4] λ _=>RN.cp (xb hM (aq 0))<|ae 7 [.own 0] λ n2=>O4 (g:=102) (args:=#[]) (cap:=#[vP (n1+0) 0,vP (n2+0) 0,vP (n1+1) 0,vP (n1+2) 0,vP (n1+3) 0])<|ae 7 [.own 4] λ _=>RN.ct (Hp:=[]) (Tp:=[]) [] [] (Ds gb ib io ni ic _) ?_
 rintro _ n3 rfl
 refine ae 3 [] λ _=>RN.nt<|kO [1,0,2]<|DS (σ:=Nat × List Eff × Option Addr × Nat × HL) (τ:=(Nat × List Eff × Option Addr × Nat × HL) × Nat × (Eff × Bool)) (encs:=λ (x_:Eff × Bool)=>#[.agg #[vI x_.1.t,vI x_.1.i,vI x_.1.k,vI x_.1.v,.bool x_.2]]) (xs:=(iW (gA S j ni xs) (m+1) M)) (enters_of Tryz.func123 (by kernel_rfl) rfl) (λ ⟨c_,RW,B_,b_,E_⟩=>([((n1+1),.lit [.slice B_ RW.length b_] 145 (0,0)),((n1+2),.lit [vI (c_:Int)] 3 (0,0))],[E_])) (λ i_ ⟨c_,RW,B_,b_,E_⟩=>c_=i_ /\ RW=mr ((iW (gA S j ni xs) (m+1) M).take i_) /\ SlIs wq 197 RW B_ b_ E_) (λ c_ ⟨c_,RW,B_,b_,E_⟩=>False) (λ ⟨⟨c_,RW,B_,b_,E_⟩,nn_,y_⟩=>⟨[(4,vP (n1+1) 0),(5,vP (n1+2) 0),(6,vP (n1+3) 0),(9,vP (nn_+0) 0)],[((nn_+0),.lit [vI y_.1.t,vI y_.1.i,vI y_.1.k,vI y_.1.v,.bool y_.2] 199 (0,0)),((n1+1),.lit [.slice B_ RW.length b_] 145 (0,0)),((n1+2),.lit [vI (c_:Int)] 3 (0,0))],[E_],True,0⟩) (λ i_ x_ ⟨⟨c_,RW,B_,b_,E_⟩,nn_,y_⟩=>(c_=i_ /\ RW=mr ((iW (gA S j ni xs) (m+1) M).take i_) /\ SlIs wq 197 RW B_ b_ E_) /\ y_=x_) (0,[],none,0,[]) (⟨rfl,rfl,SlIs.nil _ _⟩) [5,4] [1] T (M7 S bp gb mb (n3+0) (n3+1) ib io N ni ic m k j full xs M _ hj (hA.mono λ x hx=>ar hx) (av 5) (av 1) (av 0) (hU _ (aq 0)).1 (ar hE) (ar hI) ⟨hir,Th⟩ hx T Wh h0 Sg) ?_ ?_ ?_ ?_
 ·rintro l_ i_ x_ ⟨c_,RW,B_,b_,E_⟩ Y4 w5 hx6 ⟨Ul,RF,ID⟩ V5
  refine ae 4 (ow 0 5) λ n8=>?_
  refine V5 ((c_,RW,B_,b_,E_),n8,x_) [0,1,2] [0] ?_
  try dsimp only
  exact⟨⟨Ul,RF,ID⟩,rfl⟩
 ·rintro l_ i_ x_ ⟨⟨c_,RW,B_,b_,E_⟩,nn_,y_⟩ Y9 w10 X3 ⟨⟨Ul,RF,ID⟩,W7⟩
  subst W7
  have hbd_:i_<m+1:=by have:=(List.getElem?_eq_some_iff.1 X3).1;rwa [iX] at this
  have hel_:RW.length <= i_:=by rw[RF];have:=wI ((iW (gA S j ni xs) (m+1) M).take i_);rw[List.length_take] at this;omega
  refine ai 14 [.own 2,.nw,.own 2,.own 0] [aS ((c_:Int)+1)] λ _=>jl (y_.2) 29 (λ Rk=>?_) λ Rk=>?_
  ·refine ae 6 [.own 1,.own 0,.own 0,.own 0,.own 0] λ V4=>fR Mr RW [y_.1] 0 0 rfl ID (by simp;omega) ?_
   rintro A14 c15 Tt ⟨hs17,hz18⟩
   refine ae 3 [.own 2] λ _=>cr 3 (congrArg (λ v_=>(.lit [vI v_] 3 (0,0):Blk)) (show ((c_:Int)+1)=((c_+1:Nat):Int) by omega))<|cr 2 (congrArg (λ v_=>(.lit [.slice A14 v_ c15] 145 (0,0):Blk)) (show RW.length+1=(RW++[y_.1]).length by simp))<|RN.rn (c_+1,RW++[y_.1],A14,c15,Tt) [2,3] [0] ?_
   try dsimp only
   exact⟨by omega,by rw[F3 X3 Rk,<- RF],hs17⟩
  ·refine ae 3 [] λ _=>cr 2 (congrArg (λ v_=>(.lit [vI v_] 3 (0,0):Blk)) (show ((c_:Int)+1)=((c_+1:Nat):Int) by omega))<|RN.rn (c_+1,RW,B_,b_,E_) [1,2] [0] ?_
   try dsimp only
   exact⟨by omega,by rw[JM X3 Rk,<- RF],ID⟩
 ·rintro d19 ⟨c_,RW,B_,b_,E_⟩ Up ⟨Ul,RF,ID⟩ hT21
  refine ae 3 [] λ _=>RN.draw [0,1,2,3,4] []<|jQ (σ:=Unit) (λ _=>⟨[(4,vP (n1+1) 0),(5,vP (n1+2) 0),(6,vP (n1+3) 0)],[(d19,.obj (.deferred (some []))),((n1+1),.lit [.slice B_ RW.length b_] 145 (0,0)),((n1+2),.lit [vI (c_:Int)] 3 (0,0)),((n3+1),.lit [vS ib (io * 3) ni ic] 54 (0,0)),((n3+0),.lit [vP gb 0] 83 (0,0)),((n2+0),.lit [vI (aZ (M.base+(M.lg.length:Int)))] 3 (0,0)),((n1+3),.lit [vI 0] 42 (0,0)),((n1+0),.lit [vP gb 0] 83 (0,0)),(gb,.lit (dY S bp mb) 140 (0,0))],[E_,Up,U],True,0⟩) ?_ ?_
  ·rintro⟨⟩
   refine ae 1 [] λ _=>O5 ?_
   refine LV.mark 0 ?_
   refine O7 (enters_of Tryz.func102 (by kernel_rfl) rfl) [] [] (Hw _ _ _ _ _ _) ?_
   rintro _ _ _
   refine LV.ret [.own 0,.own 1,.own 5] [7] [1,2,0] (v:=.tuple #[.slice B_ RW.length b_,vI (c_:Int),vI 0]) (H':=(ap [(gb,.lit (dY S bp mb) 140 (0,0))] [Up,U,E_])) ?_
   have e1:RW=fK (gA S j ni xs) (m+1) M:=by rw[RF,List.take_length,wH]
   have e2:c_=m+1:=by rw[Ul,iX]
   subst e1
   subst e2
   exact⟨(Up,B_,b_,E_),rfl,hT21,ID,rfl⟩
  ·intro UY
   refine fQ 0 1 ?_ ?_
   ·refine RDO.ev [] [.own 1] λ _=>fQ 1 2 ?_ ?_
    ·refine RDO.ev [] [.own 2] λ _=>RD.one 2 (RDO.ev [] [.own 1] λ _=>?_)
     refine RD.one 3 (RDO.ev [] [.own 2] λ _=>?_)
     refine RD.one 4 (RDO.ev [] [.own 6] λ _=>?_)
     exact UY () [0,1,2,3,4,5,6,7,8] [0,1,2]
    ·refine RDO.ev [] [.own 1] λ _=>RD.one 1 (RDO.ev [] [.own 2] λ _=>?_)
     refine RD.one 3 (RDO.ev [] [.own 2] λ _=>?_)
     refine RD.one 4 (RDO.ev [] [.own 6] λ _=>?_)
     exact UY () [0,1,2,3,4,5,6,7,8] [0,1,2]
   ·refine RDO.ev [] [.own 2] λ _=>RD.one 0 (RDO.ev [] [.own 1] λ _=>?_)
    refine RD.one 2 (RDO.ev [] [.own 1] λ _=>?_)
    refine RD.one 3 (RDO.ev [] [.own 2] λ _=>?_)
    refine RD.one 4 (RDO.ev [] [.own 6] λ _=>?_)
    exact UY () [0,1,2,3,4,5,6,7,8] [0,1,2]
 ·exact λ _ _ _ _ h _=>h.elim
end Go.Proofs.YtgdcbiiopbpgaaaGreatDoor
