/- The reference's tokens in plain words: how long they are; what a step of the whole does. -/
import Derived.Test.YtdpkjpjkdmkkpaaGreatDoorMJ
set_option maxRecDepth 100000
set_option maxHeartbeats 16000000
namespace Go.Proofs.YtdpkjpjkdmkkpaaGreatDoor
open Ad Lx
theorem zjj {l:List UInt8} {p:Nat} (h:(cAt l p).toNat≠0):p < l.length:=by
 rcases Nat.lt_or_ge p l.length with h1 | h1
 ·exact h1
 ·exfalso
  unfold cAt at h
  rw [List.getD_eq_getElem?_getD,List.getElem?_eq_none h1] at h
  exact h rfl
theorem zee (l:List UInt8):∀ (f a:Nat) (n last:Int) (b:Bool),-1≤last→a≤l.length→a≤(zaM l f a n last b).1∧(zaM l f a n last b).1≤l.length:=by
 intro f
 induction f with
 | zero=>intro a n last b _ h;exact ⟨Nat.le_refl _,h⟩
 | succ f ih=>
  intro a n last b hl h
  simp only [zaM]
  by_cases hd:dig (cAt l a)=true
  ·rw [if_pos hd]
   have hs:=zaI (l.drop a) 10
   rw [List.length_drop] at hs
   obtain ⟨d,hdd⟩:∃ d,zak (l.drop a) 10=d:=⟨_,rfl⟩
   rw [hdd] at hs ⊢
   obtain ⟨u,hu⟩:∃ u,zcj l (a+d.2)=u:=⟨_,rfl⟩
   rw [hu]
   by_cases hle:u≤last
   ·rw [if_pos hle];exact ⟨Nat.le_refl _,h⟩
   ·rw [if_neg hle]
    have h1:a+d.2+1≤l.length:=by
     have:=zjj (l:=l) (p:=a+d.2) (by
      intro h0
      unfold zcj at hu
      rw [h0] at hu
      simp at hu
      omega)
     omega
    have h2:u=4→a+d.2+2≤l.length:=by
     intro h4
     have:=zjj (l:=l) (p:=a+d.2+1) (by
      intro h0
      unfold zcj at hu
      rw [h0] at hu
      simp at hu
      repeat' split at hu <;> try omega)
     omega
    have:=ih (a+d.2+(if u=4 then 2 else 1)) (zgz n d.1 u) u true (by omega) (by split <;> omega)
    split at this <;> constructor <;> first | omega | (rename_i h4;simp only [h4,if_true] at *;omega) | skip
    all_goals split <;> omega
  ·rw [if_neg hd];exact ⟨Nat.le_refl _,h⟩
theorem ze0 {q:Nat × Int × Bool} {n:Int} {t:Tok} {z:Nat} (h:zcc q n=(t,z,0)):z=q.1:=by
 unfold zcc at h
 split at h
 ·injection h with _ h;injection h with _ h;cases h
 ·split at h
  ·injection h with _ h;injection h with _ h;cases h
  ·injection h with _ h;injection h with h _;exact h.symm
theorem zhz {l:List UInt8} {a z:Nat} {t:Tok} (h:zbt l a=(t,z,0)) (ha:a≤l.length) (ha1:1≤a):1≤z∧z≤l.length:=by
 unfold zbt at h
 split at h
 ·rename_i hm
  have h1:=zjj (l:=l) (p:=a) (by rw [hm];decide)
  have h2:=zee l 6 (a+1) 0 (-1) false (by decide) (by omega)
  have h3:=ze0 h
  omega
 ·have h2:=zee l 6 a 0 (-1) false (by decide) ha
  have h3:=ze0 h
  omega
theorem zcG {l:List UInt8} {t:Tok} {z:Nat} (hl:l≠[]) (h:zbZ l=(t,z,0)):1≤z∧z≤l.length:=by
 cases l with
 | nil=>exact absurd rfl hl
 | cons c u=>
  simp only [zbZ] at h
  by_cases hc:c.toNat≠10∧lett c=true
  ·rw [if_pos hc] at h
   have hw:zbi c=true:=by simp [zbi,hc.2]
   simp only [zbK] at h
   obtain ⟨s,hs⟩:∃ s,span zbi (c::u)=s:=⟨_,rfl⟩
   rw [hs] at h
   have hle:=zdf zbi (c::u)
   rw [hs] at hle
   by_cases hb:(c::u)[s]? = some 35∧(kindOf (mkS ((c::u).take s))≠0∨((mkS ((c::u).take s)).toList==[84])=true)
   ·rw [if_pos hb] at h
    have hlt:=zjt hb.1
    by_cases hk:kindOf (mkS ((c::u).take s))=11∨kindOf (mkS ((c::u).take s))=0
    ·rw [if_pos hk] at h
     exact zhz h (by omega) (by omega)
    ·rw [if_neg hk] at h
     exact zd3 h rfl (by omega) (by omega)
   ·rw [if_neg hb] at h
    have h2:zcq (c::u)=(t,z,0):=by
     simp only [zcq]
     rw [hs,if_neg hb]
     exact h
    exact zcK hw h2 rfl
  ·rw [if_neg hc] at h
   exact zhl (by simp) h rfl
theorem zdB {il:Bool} {l:List UInt8} {f a:Nat} {out:List Tok} {r:Except (Nat × Int) (List Tok)} (h:rT il l (f+1) a out=r) :
  (l.length≤a∧r=.ok (out++[⟨0,0,0,[],l.length⟩])) ∨
  (a < l.length∧zbk il (cAt l a)=true∧rT il l f (a+1) out=r) ∨
  (a < l.length∧zbk il (cAt l a)=false∧(cAt l a).toNat=10∧rT il l f (a+1) (out++[⟨7,0,0,[10],a⟩])=r) ∨
  (a < l.length∧zbk il (cAt l a)=false∧(cAt l a).toNat≠10∧((cAt l a).toNat=40∧(cAt l (a+1)).toNat=42)∧Lib.index (l.drop (a+2)) [42,41]=-1∧r=.error (a,120)) ∨
  (∃ i:Nat,a < l.length∧zbk il (cAt l a)=false∧(cAt l a).toNat≠10∧((cAt l a).toNat=40∧(cAt l (a+1)).toNat=42)∧Lib.index (l.drop (a+2)) [42,41]=i∧rT il l f (a+i+4) out=r) ∨
  (∃ t n e,a < l.length∧zbk il (cAt l a)=false∧(cAt l a).toNat≠10∧¬ ((cAt l a).toNat=40∧(cAt l (a+1)).toNat=42)∧zbZ (l.drop a)=(t,n,e)∧e≠0∧r=.error (a,e)) ∨
  (∃ t n,a < l.length∧zbk il (cAt l a)=false∧(cAt l a).toNat≠10∧¬ ((cAt l a).toNat=40∧(cAt l (a+1)).toNat=42)∧zbZ (l.drop a)=(t,n,0)∧rT il l f (a+n) (out++[{ t with at_:=a }])=r):=by
 rw [rT] at h
 rcases Nat.lt_or_ge a l.length with ha | ha
 ·right
  have hc:l.drop a=cAt l a::l.drop (a+1):=by
   unfold cAt
   rw [List.getD_eq_getElem?_getD,List.getElem?_eq_getElem ha]
   exact List.drop_eq_getElem_cons ha
  have hp:=pre2 l a 40 42 (by decide) (by decide)
  have n1:=u8n (cAt l a) 40
  have n2:=u8n (cAt l (a+1)) 42
  rw [← n1,← n2] at hp
  simp only [show (40:UInt8).toNat=40 from rfl,show (42:UInt8).toNat=42 from rfl] at hp
  have h2:(cAt l a::l.drop (a+1)).drop 2=l.drop (a+2):=by rw [← hc,List.drop_drop]
  rw [hc] at hp ⊢
  rw [hc] at h
  simp only at h
  by_cases hb:zbk il (cAt l a)=true
  ·rw [if_pos hb] at h
   exact .inl ⟨ha,hb,h⟩
  ·right
   have hb':zbk il (cAt l a)=false:=by simpa using hb
   rw [if_neg hb] at h
   by_cases h10:(cAt l a).toNat=10
   ·rw [if_pos h10] at h
    exact .inl ⟨ha,hb',h10,h⟩
   ·right
    rw [if_neg h10] at h
    by_cases hcm:(cAt l a).toNat=40∧(cAt l (a+1)).toNat=42
    ·rw [if_pos (hp.2 hcm),h2] at h
     have hge:=Lib.index_ge (l.drop (a+2)) [42,41]
     by_cases hi:Lib.index (l.drop (a+2)) [42,41] < 0
     ·rw [if_pos hi] at h
      exact .inl ⟨ha,hb',h10,hcm,by omega,h.symm⟩
     ·rw [if_neg hi] at h
      exact .inr (.inl ⟨(Lib.index (l.drop (a+2)) [42,41]).toNat,ha,hb',h10,hcm,by omega,by rw [Nat.add_assoc];exact h⟩)
    ·right;right
     rw [if_neg (fun k=>hcm (hp.1 k))] at h
     by_cases he:(zbZ (cAt l a::l.drop (a+1))).2.2=0
     ·right
      rw [if_neg (by simpa using he)] at h
      exact ⟨_,_,ha,hb',h10,hcm,by rw [← he],h⟩
     ·left
      rw [if_pos he] at h
      exact ⟨_,_,_,ha,hb',h10,hcm,rfl,he,h.symm⟩
 ·left
  rw [List.drop_of_length_le ha] at h
  exact ⟨ha,h.symm⟩
theorem zlB {l:List UInt8} {a i:Nat}:Lib.occAt (l.drop a) [42,41] i=true↔(cAt l (a+i)).toNat=42∧(cAt l (a+i+1)).toNat=41:=by
 unfold Lib.occAt
 rw [List.drop_drop]
 have hp:=pre2 l (a+i) 42 41 (by decide) (by decide)
 have n1:=u8n (cAt l (a+i)) 42
 have n2:=u8n (cAt l (a+i+1)) 41
 rw [← n1,← n2] at hp
 exact hp
theorem znt {il:Bool} {l:List UInt8}:∀ (f a:Nat) (out:List Tok) (p:Nat) (e:Int),l.length - a < f→rT il l f a out=.error (p,e)→e≠0:=by
 intro f
 induction f with
 | zero=>intro a out p e h;omega
 | succ f ih=>
  intro a out p e hf h
  rcases zdB h with ⟨_,h2⟩ | ⟨_,_,h3⟩ | ⟨_,_,_,h4⟩ | ⟨_,_,_,_,_,h6⟩ | ⟨i,h1,_,_,_,_,h6⟩ | ⟨t,n,e',_,_,_,_,_,h6,h7⟩ | ⟨t,n,h1,_,_,_,h5,h6⟩
  ·cases h2
  ·exact ih _ _ _ _ (by omega) h3
  ·exact ih _ _ _ _ (by omega) h4
  ·injection h6 with h6;injection h6 with _ h6;rw [h6];decide
  ·exact ih _ _ _ _ (by omega) h6
  ·injection h7 with h7;injection h7 with _ h7;rw [h7];exact h6
  ·have hs:=zcG (by intro h0;have:=congrArg List.length h0;rw [List.length_drop,List.length_nil] at this;omega) h5
   exact ih _ _ _ _ (by omega) h6
theorem zef {il:Bool} {l:List UInt8} {p:Nat} {e:Int} (h:zaP l il=.error (p,e)):e≠0:=by
 unfold zaP at h
 split at h
 ·injection h with h;injection h with _ h;rw [← h];decide
 ·exact znt _ _ _ _ _ (by omega) h
open Go.RowKit
def zg9 (w:World) (r:Except (Nat × Int) (List Tok)) (e:Ending) (w':World):Prop:=match r with
 | .ok ts=>∃ v,e=.returned (.tuple #[v,.int .i64 0,.int .i64 0])∧w'.ownsRow w.heap.size 107 5 v ts.length (zcY ts)∧Below w.heap.size w w'
 | .error q=>e=.returned (.tuple #[.slice none 0 0,.int .i64 q.1,.int .i64 q.2])∧Below w.heap.size w w'
theorem ziw {il:Bool} {c:UInt8} (h:zbk il c=true):(c.toNat=32)∨(c.toNat≠32∧c.toNat=9)∨(c.toNat≠32∧c.toNat≠9∧c.toNat=13)∨(c.toNat≠32∧c.toNat≠9∧c.toNat≠13∧c.toNat=10∧il=false):=by
 cases il
 ·simp [zbk] at h ⊢;omega
 ·simp [zbk] at h ⊢;omega
theorem zdV {il:Bool} {c:UInt8} (h:zbk il c=false):c.toNat≠32∧c.toNat≠9∧c.toNat≠13∧(c.toNat=10→il=true):=by
 cases il
 ·simp [zbk] at h ⊢;omega
 ·simp [zbk] at h ⊢;omega
structure LoS (w0:World) (b:Nat) (s:ByteArray) (a:Int) (lv:Value) (out:List Tok) (w:World):Prop where
 sc:ScB w b s a
 own:w.ownsRow w0.heap.size 107 5 lv out.length (zcY out)
 ne:lv.ownBlock≠some b
 bl:Below w0.heap.size w0 w
 ge:w0.heap.size≤b
section
variable {w0 w w':World} {b:Nat} {s:ByteArray} {a a':Int} {lv:Value} {out:List Tok}
theorem LoS.only (h:LoS w0 b s a lv out w) (hs:ScB w' b s a') (ho:Only b w w'):LoS w0 b s a' lv out w':=
 ⟨hs,h.own.kept ho.grown (.inr h.ne),h.ne,h.bl.trans (ho.below h.ge h.bl.size),h.ge⟩
theorem LoS.below (h:LoS w0 b s a lv out w) (hb:Below w.heap.size w w'):LoS w0 b s a lv out w':=
 h.only ((hb.block b h.sc.lt).trans h.sc) (Only.ofBelow hb)
theorem LoS.drewN (h:LoS w0 b s a lv out w) (n:Nat):LoS w0 b s a lv out (w.drewN n):=h.below (Below.drewN br_ n)
theorem LoS.move (h:LoS w0 b s a lv out w) (p':Int):LoS w0 b s p' lv out (w.setCell ⟨b,1,none⟩ (.int .i64 p')):=h.only (h.sc.set p') ((Only.refl b w).setCell 1 _)
theorem LoS.app {t:Tok} {g cap:Nat} (h:LoS w0 b s a lv out w) (hown:w'.ownsRow w0.heap.size 107 5 (.slice (some ⟨g,0,none⟩) (out.length+1) cap) (out.length+1) (zcY out++tokC t)) (hg:w.grownBy w' lv.ownBlock) (hat:lv.ownBlock=some g∨b < g) :
  LoS w0 b s a (.slice (some ⟨g,0,none⟩) (out.length+1) cap) (out++[t]) w':=by
 have hlt:=h.sc.lt
 have hgb:g≠b:=by
  intro he
  rcases hat with h1 | h1
  ·rw [he] at h1;exact h.ne h1
  ·omega
 refine ⟨(hg.block b hlt (Ne.symm h.ne)).trans h.sc,by rw [zkk,List.length_append];exact hown,by simpa [Value.ownBlock] using hgb,?_,h.ge⟩
 exact h.bl.trans ⟨hg.os,hg.tape,hg.output,hg.size,fun k hk=>hg.block k (by have:=h.bl.size;omega) (fun e=>by have:=(h.own.lt k e.symm).1;omega)⟩
end
theorem zb1 {s:ByteArray} {il:Bool} {r:Except (Nat × Int) (List Tok)} (hr:zaP s.data.toList il=r) (hs:s.size≤4294967000) (w:World) :
  Calls Tryz.prog 46 #[.string s,.bool il] w (zg9 w r):=by
 have hlen:s.data.toList.length=s.size:=rfl
 unfold zaP at hr
 by_cases hbig:65536 < s.size
 ·rw [if_pos (by rw [hlen];exact hbig)] at hr
  have HR:=hd_ hr
  have hb:(65536:Int) < s.size:=by omega
  clear hr
  go_enter Tryz.func46,Tryz.ntmps46
  go_wp2
  refine bodyPost_ret (v:=.tuple #[.slice none 0 0,.int .i64 65536,.int .i64 121]) (by simp [results,Tryz.results46,go_sem]) rfl ?_
  rw [← HR.out]
  exact ⟨rfl,Below.refl _ _⟩
 ·rw [if_neg (by rw [hlen];exact hbig),hlen] at hr
  have HR:=hd_ hr
  have hb:(s.size:Int)≤65536:=by omega
  have hsz:s.size≤65536:=by omega
  obtain ⟨i0,hi,hz0,hz1,hz2⟩:=info_parts zmD
  have HI:=hd_ (And.intro hi (And.intro hz0 (And.intro hz1 hz2)))
  clear hr hbig hi hz0 hz1 hz2 hlen
  go_enter Tryz.func46,Tryz.ntmps46
  go_wp2
  obtain ⟨b,hbe⟩:∃ b,b=w.heap.size:=⟨_,rfl⟩
  have HL:Hid (LoS w b s ((0:Nat):Int) (.slice none 0 0) [] (w.alloc (.cells #[.string s,.int .i64 0] 143))):=hd_ ⟨by rw [hbe];exact heap_alloc_new w _,World.ownsRow_nil _ _ _ _,by simp [Value.ownBlock],br_.alloc nl_ _,by rw [hbe];exact Nat.le_refl _⟩
  rw [← hbe]
  clear hbe
  go_loopw [8] (fun v8 wr=>RRel (∃ (a f:Nat) (out:List Tok),a≤s.size∧s.size - a < f∧out.length≤a∧Hid (rT il s.data.toList f a out=r)∧Hid (LoS w b s (a:Int) v8 out wr))) (fun _ wr=>s.size - (intOf ((wr.cell? ⟨b,1,none⟩).getD undef)).toNat)
  case atStart=>exact RRel.mk ⟨0,s.size+1,[],by omega,by omega,by simp,HR,HL⟩
  case round=>
   clear HR HL
   obtain ⟨a,f,out,ha,hf,hol,HD,HT⟩:=hrel.it
   clear hrel
   obtain ⟨WR,rfl⟩:∃ WR,WR=wr:=⟨_,rfl⟩
   obtain ⟨f,rfl⟩:∃ g,f=g+1:=⟨f - 1,by omega⟩
   have hsz':s.size≤4294967000:=by omega
   obtain ⟨x0,x1,g0,g1⟩:=HT.out.sc.cells
   have hbl:=HT.out.sc.lt
   have hcas:=zdB HD.out
   rw [show s.data.toList.length=s.size from rfl] at hcas
   obtain ⟨c,hc⟩:∃ c,cAt s.data.toList a=c:=⟨_,rfl⟩
   obtain ⟨c',hc'⟩:∃ c,cAt s.data.toList (a+1)=c:=⟨_,rfl⟩
   rw [hc,hc'] at hcas
   have HC:=hd_ (fun k hk W (hW:ScB W b s (a:Int))=>zik hc hc' hsz' ha k hk W hW)
   have HC0:=hd_ hc
   have HC1:=hd_ hc'
   have q1:IntKind.i64.wrap ((a:Int)+1)=(a:Int)+1:=IntWalk.i64_in _ (by omega)
   have q2:IntKind.i64.wrap ((a:Int)+2)=(a:Int)+2:=IntWalk.i64_in _ (by omega)
   have hbb:=fun il'=>(show zbk il' c=(c.toNat==32 || c.toNat==9 || c.toNat==13 || (c.toNat==10&&!il')) from rfl)
   have HBB:=hd_ hbb
   clear hc hc' hbb HD
   rcases hcas with ⟨h1,h2⟩ | ⟨h1,h2,h3⟩ | ⟨h1,h2,h3,h4⟩ | ⟨h1,h2,h3,h4,h5,h6⟩ | ⟨i,h1,h2,h3,h4,h5,h6⟩ | ⟨t,n,e,h1,h2,h3,h4,h5,h6,h7⟩ | ⟨t,n,h1,h2,h3,h4,h5,h6⟩
   ·have HR2:=hd_ h2
    have hae:a=s.size:=by omega
    subst hae
    have f1:decide ((s.size:Int) ≥ s.size)=true:=by simp
    clear h2
    have HBS:Hid (w.heap.size≤WR.heap.size+1):=hd_ (by have:=HT.out.bl.size;omega)
    go_wp2_with (first | (go_at_call 79;refine (HC.out _ (by decide) _ (by exact HT.out.sc)).mono ?_;rintro e w3 ⟨rfl,nn3,rfl⟩;first | rw [if_pos rfl] | rw [if_neg (by decide)]) | (at_builtin;refine wpList_append_lies _ (by rfl) _ _ _ (by rfl) w.heap.size 107 i0 _ 5 48 Tryz.underlying92 HI.out.1 HI.out.2.1 HI.out.2.2.1 HI.out.2.2.2 rfl (by omega) u8 out.length (zcY out) (by rfl) (LoS.own (LoS.below (HT.out.drewN nn3) (br_.alloc nl_ _))) ⟨WR.heap.size,0,none⟩ 1 1 (tokC ⟨0,0,0,[],s.size⟩) (by rfl) (by rfl) (World.news_of_block (cs:=(tokC ⟨0,0,0,[],s.size⟩).toArray) (t:=107) (fr:=(0,0)) (heap_alloc_new _ _)) (zfZ _) (by omega) (by simp only [maxLen];omega) (by omega) (by simp;exact HBS.out) (WR.heap.size+1) (by simp) ?_;intro g cap w4 hown4 hgrow4 hat4 hlt4;have H4:=hd_ (LoS.app (LoS.below (HT.out.drewN nn3) (br_.alloc nl_ _)) hown4 hgrow4 (hat4.imp id (fun h=>by omega)));clear hown4 hgrow4 hat4 hlt4))
    rw [HR2.out]
    refine bodyPost_ret (v:=.tuple #[.slice (some ⟨g,0,none⟩) (out.length+1) cap,.int .i64 0,.int .i64 0]) (by simp [results,Tryz.results46,go_sem]) rfl ?_
    exact ⟨_,rfl,H4.out.own,H4.out.bl⟩
   ·have f1:¬ (s.size:Int)≤a:=by omega
    have HR2:=hd_ h3
    have hway:=ziw h2
    clear h2 h3
    rcases hway with k1 | ⟨k1,k2⟩ | ⟨k1,k2,k3⟩ | ⟨k1,k2,k3,k4,rfl⟩
    ·have e32:((c.toNat:Int)==32)=true:=by simp;omega
     go_wp2_with (go_at_call 79;refine (HC.out _ (by decide) _ (by exact HT.out.sc)).mono ?_;rintro e w3 ⟨rfl,nn3,rfl⟩;first | rw [if_pos rfl] | rw [if_neg (by decide)])
     go_roundw
     case rel=>
      exact RRel.mk ⟨a+1,f,out,by omega,by omega,by omega,HR2,hd_ (by rw [show ((a+1:Nat):Int)=(a:Int)+1 by omega];first | exact (HT.out.drewN _).move _ | exact ((HT.out.drewN _).drewN _).move _)⟩
     case measure=>
      have h5:=fun nd=>(((HT.out.drewN nd).move ((a:Int)+1)).sc).cells.2.1
      simp [h5,x1,intOf];omega
    ·have e32:((c.toNat:Int)==32)=false:=by simp;omega
     have e9:((c.toNat:Int)==9)=true:=by simp;omega
     go_wp2_with (go_at_call 79;refine (HC.out _ (by decide) _ (by exact HT.out.sc)).mono ?_;rintro e w3 ⟨rfl,nn3,rfl⟩;first | rw [if_pos rfl] | rw [if_neg (by decide)])
     go_roundw
     case rel=>
      exact RRel.mk ⟨a+1,f,out,by omega,by omega,by omega,HR2,hd_ (by rw [show ((a+1:Nat):Int)=(a:Int)+1 by omega];first | exact (HT.out.drewN _).move _ | exact ((HT.out.drewN _).drewN _).move _)⟩
     case measure=>
      have h5:=fun nd=>(((HT.out.drewN nd).move ((a:Int)+1)).sc).cells.2.1
      simp [h5,x1,intOf];omega
    ·have e32:((c.toNat:Int)==32)=false:=by simp;omega
     have e9:((c.toNat:Int)==9)=false:=by simp;omega
     have e13:((c.toNat:Int)==13)=true:=by simp;omega
     go_wp2_with (go_at_call 79;refine (HC.out _ (by decide) _ (by exact HT.out.sc)).mono ?_;rintro e w3 ⟨rfl,nn3,rfl⟩;first | rw [if_pos rfl] | rw [if_neg (by decide)])
     go_roundw
     case rel=>
      exact RRel.mk ⟨a+1,f,out,by omega,by omega,by omega,HR2,hd_ (by rw [show ((a+1:Nat):Int)=(a:Int)+1 by omega];first | exact (HT.out.drewN _).move _ | exact ((HT.out.drewN _).drewN _).move _)⟩
     case measure=>
      have h5:=fun nd=>(((HT.out.drewN nd).move ((a:Int)+1)).sc).cells.2.1
      simp [h5,x1,intOf];omega
    ·have e32:((c.toNat:Int)==32)=false:=by simp;omega
     have e9:((c.toNat:Int)==9)=false:=by simp;omega
     have e13:((c.toNat:Int)==13)=false:=by simp;omega
     have e10:((c.toNat:Int)==10)=true:=by simp;omega
     go_wp2_with (go_at_call 79;refine (HC.out _ (by decide) _ (by exact HT.out.sc)).mono ?_;rintro e w3 ⟨rfl,nn3,rfl⟩;first | rw [if_pos rfl] | rw [if_neg (by decide)])
     go_roundw
     case rel=>
      exact RRel.mk ⟨a+1,f,out,by omega,by omega,by omega,HR2,hd_ (by rw [show ((a+1:Nat):Int)=(a:Int)+1 by omega];first | exact (HT.out.drewN _).move _ | exact ((HT.out.drewN _).drewN _).move _)⟩
     case measure=>
      have h5:=fun nd=>(((HT.out.drewN nd).move ((a:Int)+1)).sc).cells.2.1
      simp [h5,x1,intOf];omega
   ·have f1:¬ (s.size:Int)≤a:=by omega
    have e10:((c.toNat:Int)==10)=true:=by simp;omega
    have e32:((c.toNat:Int)==32)=false:=by simp;omega
    have e9:((c.toNat:Int)==9)=false:=by simp;omega
    have e13:((c.toNat:Int)==13)=false:=by simp;omega
    obtain rfl:=(zdV h2).2.2.2 h3
    have HR2:=hd_ h4
    have HBS:Hid (w.heap.size≤WR.heap.size+1):=hd_ (by have:=HT.out.bl.size;omega)
    clear h2 h3 h4
    go_wp2_with (first | (go_at_call 79;refine (HC.out _ (by decide) _ (by exact HT.out.sc)).mono ?_;rintro e w3 ⟨rfl,nn3,rfl⟩;first | rw [if_pos rfl] | rw [if_neg (by decide)]) | (at_builtin;refine wpList_append_lies _ (by rfl) _ _ _ (by rfl) w.heap.size 107 i0 _ 5 48 Tryz.underlying92 HI.out.1 HI.out.2.1 HI.out.2.2.1 HI.out.2.2.2 rfl (by omega) u8 out.length (zcY out) (by rfl) (LoS.own (LoS.below (HT.out.drewN nn3) (br_.alloc nl_ _))) ⟨WR.heap.size,0,none⟩ 1 1 (tokC ⟨7,0,0,[10],a⟩) (by rfl) (by rfl) (World.news_of_block (cs:=(tokC ⟨7,0,0,[10],a⟩).toArray) (t:=107) (fr:=(0,0)) (heap_alloc_new _ _)) (zfZ _) (by omega) (by simp only [maxLen];omega) (by omega) (by simp;exact HBS.out) (WR.heap.size+1) (by simp) ?_;intro g cap w4 hown4 hgrow4 hat4 hlt4;have H4:=hd_ (LoS.app (LoS.below (HT.out.drewN nn3) (br_.alloc nl_ _)) hown4 hgrow4 (hat4.imp id (fun h=>by omega)));have k4:=H4.out.sc.cells;have k4a:=k4.2.1;have k4b:=k4.2.2.2;clear k4;clear hown4 hgrow4 hat4 hlt4))
    go_roundw
    case rel=>
     exact RRel.mk ⟨a+1,f,_,by omega,by omega,by simp;omega,HR2,hd_ (by rw [show ((a+1:Nat):Int)=(a:Int)+1 by omega];exact H4.out.move _)⟩
    case measure=>
     have h5:=((H4.out.move ((a:Int)+1)).sc).cells.2.1
     simp [h5,x1,intOf];omega
   ·have f1:¬ (s.size:Int)≤a:=by omega
    have e10:((c.toNat:Int)==10)=false:=by simp;omega
    have e40:((c.toNat:Int)==40)=true:=by simp;omega
    have e42:((c'.toNat:Int)==42)=true:=by simp;omega
    have e32:((c.toNat:Int)==32)=false:=by simp;omega
    have e9:((c.toNat:Int)==9)=false:=by simp;omega
    have e13:((c.toNat:Int)==13)=false:=by simp;omega
    have HR2:=hd_ h6
    have HIX:=hd_ h5
    have ha2:a+2≤s.size:=by
     have:=zfi (s:=s) (p:=a+1) (by rw [HC1.out];omega)
     omega
    clear h2 h3 h4 h5 h6
    go_wp2_with (go_at_call 79;refine (HC.out _ (by decide) _ (by exact HT.out.sc)).mono ?_;rintro e w3 ⟨rfl,nn3,rfl⟩;first | rw [if_pos rfl] | rw [if_neg (by decide)])
    go_loopw [] (fun wr2=>RRel (∃ j:Nat,a+2+j≤s.size∧Hid (Lib.NoOcc (s.data.toList.drop (a+2)) [42,41] j)∧Hid (LoS w b s ((a+2+j:Nat):Int) u8 out wr2))) (fun wr2=>s.size - (intOf ((wr2.cell? ⟨b,1,none⟩).getD undef)).toNat)
    case atStart=>exact RRel.mk ⟨0,by omega,hd_ (Lib.NoOcc.zero _ _),hd_ (by rw [show ((a+2+0:Nat):Int)=(a:Int)+2 by omega];first | exact (HT.out.drewN _).move _ | exact ((HT.out.drewN _).drewN _).move _)⟩
    case round=>
     obtain ⟨j,hj,HNO,HT2⟩:=hrel.it
     clear hrel
     obtain ⟨W2,rfl⟩:∃ W2,W2=wr:=⟨_,rfl⟩
     obtain ⟨q,hq⟩:∃ q,a+2+j=q:=⟨_,rfl⟩
     rw [hq] at HT2 hj
     have HQ:=hd_ hq
     have hocc:=zlB (l:=s.data.toList) (a:=a+2) (i:=j)
     rw [hq] at hocc
     obtain ⟨d,hd⟩:∃ d,cAt s.data.toList q=d:=⟨_,rfl⟩
     obtain ⟨d',hd'⟩:∃ d,cAt s.data.toList (q+1)=d:=⟨_,rfl⟩
     rw [hd,hd'] at hocc
     have HOC:=hd_ hocc
     have HD0:=hd_ hd
     have HD1:=hd_ hd'
     have HC2:=hd_ (fun k hk W (hW:ScB W b s (q:Int))=>zik hd hd' hsz' hj k hk W hW)
     obtain ⟨y0,y1,k0,k1⟩:=HT2.out.sc.cells
     have hbl2:=HT2.out.sc.lt
     have q3:IntKind.i64.wrap ((q:Int)+1)=(q:Int)+1:=IntWalk.i64_in _ (by omega)
     have q4:IntKind.i64.wrap ((q:Int)+2)=(q:Int)+2:=IntWalk.i64_in _ (by omega)
     clear hd hd' hocc hq
     have hway:(q=s.size)∨(q < s.size∧d.toNat≠42)∨(q < s.size∧d.toNat=42∧d'.toNat≠41)∨(q < s.size∧d.toNat=42∧d'.toNat=41):=by omega
     rcases hway with k1 | ⟨k1,k2⟩ | ⟨k1,k2,k3⟩ | ⟨k1,k2,k3⟩
     ·have HE:=hd_ (Lib.index_past (by simp) HNO.out (by rw [List.length_drop,show s.data.toList.length=s.size from rfl];simp only [List.length_cons,List.length_nil];have:=HQ.out;omega))
      have z1:¬ (q:Int) < s.size:=by omega
      have z2:(s.size:Int)≤q:=by omega
      clear k1
      go_wp2_with (go_at_call 79;refine (HC2.out _ (by decide) _ (by exact HT2.out.sc)).mono ?_;rintro e w3 ⟨rfl,nn3,rfl⟩;first | rw [if_pos rfl] | rw [if_neg (by decide)])
      rw [HR2.out]
      refine bodyPost_ret (v:=.tuple #[.slice none 0 0,.int .i64 a,.int .i64 120]) (by simp [results,Tryz.results46,go_sem]) rfl ?_
      exact ⟨rfl,HT2.out.bl⟩
     ·have z1:(q:Int) < s.size:=by omega
      have z3:((d.toNat:Int)==42)=false:=by simp;omega
      have HNE:Hid (Lib.occAt (s.data.toList.drop (a+2)) [42,41] j=false):=hd_ (by
       cases h:Lib.occAt (s.data.toList.drop (a+2)) [42,41] j with
       | false=>rfl
       | true=>have:=HOC.out.1 h;omega)
      go_wp2_with (go_at_call 79;refine (HC2.out _ (by decide) _ (by exact HT2.out.sc)).mono ?_;rintro e w3 ⟨rfl,nn3,rfl⟩;first | rw [if_pos rfl] | rw [if_neg (by decide)])
      go_roundw
      case rel=>
       exact RRel.mk ⟨j+1,by have:=HQ.out;omega,hd_ (HNO.out.succ HNE.out),hd_ (by rw [show ((a+2+(j+1):Nat):Int)=(q:Int)+1 by have:=HQ.out;omega];first | exact (HT2.out.drewN _).move _ | exact ((HT2.out.drewN _).drewN _).move _)⟩
      case measure=>
       have h5:=fun nd=>(((HT2.out.drewN nd).move ((q:Int)+1)).sc).cells.2.1
       simp [h5,y1,intOf];omega
     ·have z1:(q:Int) < s.size:=by omega
      have z3:((d.toNat:Int)==42)=true:=by simp;omega
      have z4:((d'.toNat:Int)==41)=false:=by simp;omega
      have HNE:Hid (Lib.occAt (s.data.toList.drop (a+2)) [42,41] j=false):=hd_ (by
       cases h:Lib.occAt (s.data.toList.drop (a+2)) [42,41] j with
       | false=>rfl
       | true=>have:=HOC.out.1 h;omega)
      go_wp2_with (go_at_call 79;refine (HC2.out _ (by decide) _ (by exact HT2.out.sc)).mono ?_;rintro e w3 ⟨rfl,nn3,rfl⟩;first | rw [if_pos rfl] | rw [if_neg (by decide)])
      go_roundw
      case rel=>
       exact RRel.mk ⟨j+1,by have:=HQ.out;omega,hd_ (HNO.out.succ HNE.out),hd_ (by rw [show ((a+2+(j+1):Nat):Int)=(q:Int)+1 by have:=HQ.out;omega];first | exact (HT2.out.drewN _).move _ | exact ((HT2.out.drewN _).drewN _).move _)⟩
      case measure=>
       have h5:=fun nd=>(((HT2.out.drewN nd).move ((q:Int)+1)).sc).cells.2.1
       simp [h5,y1,intOf];omega
     ·have HE:=hd_ (Lib.index_hit HNO.out (by rw [List.length_drop,show s.data.toList.length=s.size from rfl];have:=HQ.out;omega) (HOC.out.2 ⟨k2,k3⟩))
      exfalso
      have h:=HIX.out
      rw [HE.out] at h
      omega
   ·have f1:¬ (s.size:Int)≤a:=by omega
    have e10:((c.toNat:Int)==10)=false:=by simp;omega
    have e40:((c.toNat:Int)==40)=true:=by simp;omega
    have e42:((c'.toNat:Int)==42)=true:=by simp;omega
    have e32:((c.toNat:Int)==32)=false:=by simp;omega
    have e9:((c.toNat:Int)==9)=false:=by simp;omega
    have e13:((c.toNat:Int)==13)=false:=by simp;omega
    have HR2:=hd_ h6
    have HIX:=hd_ h5
    have ha2:a+2≤s.size:=by
     have:=zfi (s:=s) (p:=a+1) (by rw [HC1.out];omega)
     omega
    clear h2 h3 h4 h5 h6
    go_wp2_with (go_at_call 79;refine (HC.out _ (by decide) _ (by exact HT.out.sc)).mono ?_;rintro e w3 ⟨rfl,nn3,rfl⟩;first | rw [if_pos rfl] | rw [if_neg (by decide)])
    go_loopw [] (fun wr2=>RRel (∃ j:Nat,a+2+j≤s.size∧Hid (Lib.NoOcc (s.data.toList.drop (a+2)) [42,41] j)∧Hid (LoS w b s ((a+2+j:Nat):Int) u8 out wr2))) (fun wr2=>s.size - (intOf ((wr2.cell? ⟨b,1,none⟩).getD undef)).toNat)
    case atStart=>exact RRel.mk ⟨0,by omega,hd_ (Lib.NoOcc.zero _ _),hd_ (by rw [show ((a+2+0:Nat):Int)=(a:Int)+2 by omega];first | exact (HT.out.drewN _).move _ | exact ((HT.out.drewN _).drewN _).move _)⟩
    case round=>
     obtain ⟨j,hj,HNO,HT2⟩:=hrel.it
     clear hrel
     obtain ⟨W2,rfl⟩:∃ W2,W2=wr:=⟨_,rfl⟩
     obtain ⟨q,hq⟩:∃ q,a+2+j=q:=⟨_,rfl⟩
     rw [hq] at HT2 hj
     have HQ:=hd_ hq
     have hocc:=zlB (l:=s.data.toList) (a:=a+2) (i:=j)
     rw [hq] at hocc
     obtain ⟨d,hd⟩:∃ d,cAt s.data.toList q=d:=⟨_,rfl⟩
     obtain ⟨d',hd'⟩:∃ d,cAt s.data.toList (q+1)=d:=⟨_,rfl⟩
     rw [hd,hd'] at hocc
     have HOC:=hd_ hocc
     have HD0:=hd_ hd
     have HD1:=hd_ hd'
     have HC2:=hd_ (fun k hk W (hW:ScB W b s (q:Int))=>zik hd hd' hsz' hj k hk W hW)
     obtain ⟨y0,y1,k0,k1⟩:=HT2.out.sc.cells
     have hbl2:=HT2.out.sc.lt
     have q3:IntKind.i64.wrap ((q:Int)+1)=(q:Int)+1:=IntWalk.i64_in _ (by omega)
     have q4:IntKind.i64.wrap ((q:Int)+2)=(q:Int)+2:=IntWalk.i64_in _ (by omega)
     clear hd hd' hocc hq
     have hway:(q=s.size)∨(q < s.size∧d.toNat≠42)∨(q < s.size∧d.toNat=42∧d'.toNat≠41)∨(q < s.size∧d.toNat=42∧d'.toNat=41):=by omega
     rcases hway with k1 | ⟨k1,k2⟩ | ⟨k1,k2,k3⟩ | ⟨k1,k2,k3⟩
     ·have HE:=hd_ (Lib.index_past (by simp) HNO.out (by rw [List.length_drop,show s.data.toList.length=s.size from rfl];simp only [List.length_cons,List.length_nil];have:=HQ.out;omega))
      have z1:¬ (q:Int) < s.size:=by omega
      have z2:(s.size:Int)≤q:=by omega
      clear k1
      exfalso
      have h:=HIX.out
      rw [HE.out] at h
      omega
     ·have z1:(q:Int) < s.size:=by omega
      have z3:((d.toNat:Int)==42)=false:=by simp;omega
      have HNE:Hid (Lib.occAt (s.data.toList.drop (a+2)) [42,41] j=false):=hd_ (by
       cases h:Lib.occAt (s.data.toList.drop (a+2)) [42,41] j with
       | false=>rfl
       | true=>have:=HOC.out.1 h;omega)
      go_wp2_with (go_at_call 79;refine (HC2.out _ (by decide) _ (by exact HT2.out.sc)).mono ?_;rintro e w3 ⟨rfl,nn3,rfl⟩;first | rw [if_pos rfl] | rw [if_neg (by decide)])
      go_roundw
      case rel=>
       exact RRel.mk ⟨j+1,by have:=HQ.out;omega,hd_ (HNO.out.succ HNE.out),hd_ (by rw [show ((a+2+(j+1):Nat):Int)=(q:Int)+1 by have:=HQ.out;omega];first | exact (HT2.out.drewN _).move _ | exact ((HT2.out.drewN _).drewN _).move _)⟩
      case measure=>
       have h5:=fun nd=>(((HT2.out.drewN nd).move ((q:Int)+1)).sc).cells.2.1
       simp [h5,y1,intOf];omega
     ·have z1:(q:Int) < s.size:=by omega
      have z3:((d.toNat:Int)==42)=true:=by simp;omega
      have z4:((d'.toNat:Int)==41)=false:=by simp;omega
      have HNE:Hid (Lib.occAt (s.data.toList.drop (a+2)) [42,41] j=false):=hd_ (by
       cases h:Lib.occAt (s.data.toList.drop (a+2)) [42,41] j with
       | false=>rfl
       | true=>have:=HOC.out.1 h;omega)
      go_wp2_with (go_at_call 79;refine (HC2.out _ (by decide) _ (by exact HT2.out.sc)).mono ?_;rintro e w3 ⟨rfl,nn3,rfl⟩;first | rw [if_pos rfl] | rw [if_neg (by decide)])
      go_roundw
      case rel=>
       exact RRel.mk ⟨j+1,by have:=HQ.out;omega,hd_ (HNO.out.succ HNE.out),hd_ (by rw [show ((a+2+(j+1):Nat):Int)=(q:Int)+1 by have:=HQ.out;omega];first | exact (HT2.out.drewN _).move _ | exact ((HT2.out.drewN _).drewN _).move _)⟩
      case measure=>
       have h5:=fun nd=>(((HT2.out.drewN nd).move ((q:Int)+1)).sc).cells.2.1
       simp [h5,y1,intOf];omega
     ·have HE:=hd_ (Lib.index_hit HNO.out (by rw [List.length_drop,show s.data.toList.length=s.size from rfl];have:=HQ.out;omega) (HOC.out.2 ⟨k2,k3⟩))
      have hji:j=i:=by have h:=HIX.out;rw [HE.out] at h;omega
      have z1:(q:Int) < s.size:=by omega
      have z3:((d.toNat:Int)==42)=true:=by simp;omega
      have z4:((d'.toNat:Int)==41)=true:=by simp;omega
      have z5:¬ (s.size:Int)≤q:=by omega
      have hq2:q+2≤s.size:=by
       have:=zfi (s:=s) (p:=q+1) (by rw [HD1.out];omega)
       omega
      have HJ:=hd_ hji
      clear hji
      go_wp2_with (go_at_call 79;refine (HC2.out _ (by decide) _ (by exact HT2.out.sc)).mono ?_;rintro e w3 ⟨rfl,nn3,rfl⟩;first | rw [if_pos rfl] | rw [if_neg (by decide)])
      go_roundw
      case rel=>
       exact RRel.mk ⟨a+i+4,f,out,by have:=HQ.out;have:=HJ.out;omega,by have:=HQ.out;have:=HJ.out;omega,by omega,HR2,hd_ (by rw [show ((a+i+4:Nat):Int)=(q:Int)+2 by have:=HQ.out;have:=HJ.out;omega];first | exact (HT2.out.drewN _).move _ | exact ((HT2.out.drewN _).drewN _).move _)⟩
      case measure=>
       have h5:=fun nd=>(((HT2.out.drewN nd).move ((q:Int)+2)).sc).cells.2.1
       have:=HQ.out
       simp [h5,x1,intOf];omega
   ·have f1:¬ (s.size:Int)≤a:=by omega
    have e10:((c.toNat:Int)==10)=false:=by simp;omega
    obtain ⟨m32,m9,m13,-⟩:=zdV h2
    have e32:((c.toNat:Int)==32)=false:=by simp;omega
    have e9:((c.toNat:Int)==9)=false:=by simp;omega
    have e13:((c.toNat:Int)==13)=false:=by simp;omega
    clear m32 m9 m13
    have hN:(cAt s.data.toList a).toNat≠10:=by rw [HC0.out];exact h3
    have H107:=hd_ (fun W (hW:ScB W b s (a:Int))=>zgM h5 hN hsz' h1 W hW)
    obtain ⟨tk,kd,nn,tx,ta⟩:=t
    have HR2:=hd_ h7
    have hcm:((c.toNat:Int)==40)=false∨(((c.toNat:Int)==40)=true∧((c'.toNat:Int)==42)=false):=by
     by_cases k40:c.toNat=40
     ·right;exact ⟨by simp;omega,by simp;omega⟩
     ·left;simp;omega
    clear h2 h3 h4 h5 h7 hN
    rcases hcm with e40 | ⟨e40,e42⟩
    all_goals
     go_wp2_with (go_at_call 79;refine (HC.out _ (by decide) _ (by exact HT.out.sc)).mono ?_;rintro e w3 ⟨rfl,nn3,rfl⟩;first | rw [if_pos rfl] | rw [if_neg (by decide)])
     refine (H107.out _ (by first | exact HT.out.sc.drewN _ | exact (HT.out.sc.drewN _).drewN _)).mono ?_
     rintro ev w6 ⟨p1,p2,p3⟩
     obtain ⟨z1,z2,z3,z4,rfl⟩:=p2 h6
     have HBL:Hid (Below w.heap.size w w6):=hd_ (by first | exact (HT.out.drewN _).bl.trans (p3.below HT.out.ge (HT.out.drewN _).bl.size) | exact ((HT.out.drewN _).drewN _).bl.trans (p3.below HT.out.ge ((HT.out.drewN _).drewN _).bl.size))
     have ee:(e==0)=false:=by simpa using h6
     clear p1 p2 p3
     simp only [upBy]
     have kA:∀ (o:Obj) (i:Nat) (v:Value),o=.cells #[.int .i64 0,.int .i64 0,.int .i64 0,.string ⟨#[]⟩,.int .i64 0] 107→True:=fun _ _ _ _=>trivial
     clear kA
     go_upto_region 22 with fail
     have HST:=heap_alloc_new w6 (.cells #[.int .i64 z1,.int .i64 z2,.int .i64 z3,.string z4,.int .i64 a] 107)
     have hbl6:Below w6.heap.size w6 (w6.alloc (.cells #[.int .i64 z1,.int .i64 z2,.int .i64 z3,.string z4,.int .i64 a] 107)):=br_.alloc nl_ _
     obtain ⟨W7,hW7⟩:∃ W7,W7=w6.alloc (.cells #[.int .i64 z1,.int .i64 z2,.int .i64 z3,.string z4,.int .i64 a] 107):=⟨_,rfl⟩
     have hst:W7.heap[w6.heap.size]? = some (.cells #[.int .i64 z1,.int .i64 z2,.int .i64 z3,.string z4,.int .i64 a] 107):=by rw [hW7];exact HST
     clear HST
     rw [← hW7] at hbl6 ⊢
     have HB7:Hid (Below w.heap.size w W7):=hd_ (HBL.out.trans ⟨hbl6.os,hbl6.tape,hbl6.output,hbl6.size,fun k hk=>hbl6.block k (ll_ hk HBL.out.size)⟩)
     obtain ⟨c60,c61,c62,c63,c64,-⟩:=blk5 hst
     clear hW7 hst hbl6 h6
     go_wp2
     go_quiet (fail)
     go_wp2
     rw [HR2.out]
     refine bodyPost_ret (v:=.tuple #[.slice none 0 0,.int .i64 a,.int .i64 e]) (by simp [results,Tryz.results46,go_sem]) rfl ?_
     exact ⟨rfl,HB7.out.drewN _⟩
   ·have f1:¬ (s.size:Int)≤a:=by omega
    have e10:((c.toNat:Int)==10)=false:=by simp;omega
    obtain ⟨m32,m9,m13,-⟩:=zdV h2
    have e32:((c.toNat:Int)==32)=false:=by simp;omega
    have e9:((c.toNat:Int)==9)=false:=by simp;omega
    have e13:((c.toNat:Int)==13)=false:=by simp;omega
    clear m32 m9 m13
    have hN:(cAt s.data.toList a).toNat≠10:=by rw [HC0.out];exact h3
    have H107:=hd_ (fun W (hW:ScB W b s (a:Int))=>zgM h5 hN hsz' h1 W hW)
    obtain ⟨tk,kd,nn,tx,ta⟩:=t
    have hsize:=zcG (by intro h0;have:=congrArg List.length h0;rw [List.length_drop,List.length_nil,show s.data.toList.length=s.size from rfl] at this;omega) h5
    rw [List.length_drop,show s.data.toList.length=s.size from rfl] at hsize
    obtain ⟨n1,n2⟩:=hsize
    have HR2:=hd_ h6
    have hcm:((c.toNat:Int)==40)=false∨(((c.toNat:Int)==40)=true∧((c'.toNat:Int)==42)=false):=by
     by_cases k40:c.toNat=40
     ·right;exact ⟨by simp;omega,by simp;omega⟩
     ·left;simp;omega
    clear h2 h3 h4 h5 h6 hN
    rcases hcm with e40 | ⟨e40,e42⟩
    all_goals
     go_wp2_with (go_at_call 79;refine (HC.out _ (by decide) _ (by exact HT.out.sc)).mono ?_;rintro e w3 ⟨rfl,nn3,rfl⟩;first | rw [if_pos rfl] | rw [if_neg (by decide)])
     refine (H107.out _ (by first | exact HT.out.sc.drewN _ | exact (HT.out.sc.drewN _).drewN _)).mono ?_
     rintro ev w6 ⟨p1,p2,p3⟩
     obtain ⟨rfl,hsc⟩:=p1 rfl
     have HT6:Hid (LoS w b s ((a+n:Nat):Int) u8 out w6):=hd_ (by first | exact (HT.out.drewN _).only hsc p3 | exact ((HT.out.drewN _).drewN _).only hsc p3)
     clear p1 p2 p3 hsc
     simp only [tokV,upBy]
     go_upto_region 22 with fail
     have HST:=heap_alloc_new w6 (.cells #[.int .i64 tk,.int .i64 kd,.int .i64 nn,.string ⟨tx.toArray⟩,.int .i64 a] 107)
     have hbl6:Below w6.heap.size w6 (w6.alloc (.cells #[.int .i64 tk,.int .i64 kd,.int .i64 nn,.string ⟨tx.toArray⟩,.int .i64 a] 107)):=br_.alloc nl_ _
     obtain ⟨W7,hW7⟩:∃ W7,W7=w6.alloc (.cells #[.int .i64 tk,.int .i64 kd,.int .i64 nn,.string ⟨tx.toArray⟩,.int .i64 a] 107):=⟨_,rfl⟩
     have hst:W7.heap[w6.heap.size]? = some (.cells #[.int .i64 tk,.int .i64 kd,.int .i64 nn,.string ⟨tx.toArray⟩,.int .i64 a] 107):=by rw [hW7];exact HST
     clear HST
     rw [← hW7] at hbl6 ⊢
     have HT7:=hd_ (HT6.out.below hbl6)
     have HBS:Hid (w.heap.size≤W7.heap.size+1):=hd_ (by have:=HT7.out.bl.size;omega)
     have hlb:b < W7.heap.size:=HT7.out.sc.lt
     obtain ⟨c60,c61,c62,c63,c64,-⟩:=blk5 hst
     clear hW7 hst hbl6
     go_wp2_with (at_builtin;refine wpList_append_lies _ (by rfl) _ _ _ (by rfl) w.heap.size 107 i0 _ 5 48 Tryz.underlying92 HI.out.1 HI.out.2.1 HI.out.2.2.1 HI.out.2.2.2 rfl (by omega) u8 out.length (zcY out) (by rfl) (LoS.own (LoS.below HT7.out (br_.alloc nl_ _))) ⟨W7.heap.size,0,none⟩ 1 1 (tokC ⟨tk,kd,nn,tx,a⟩) (by rfl) (by rfl) (World.news_of_block (cs:=(tokC ⟨tk,kd,nn,tx,a⟩).toArray) (t:=107) (fr:=(0,0)) (heap_alloc_new _ _)) (zfZ _) (by omega) (by simp only [maxLen];omega) (by omega) (by simp;exact HBS.out) (W7.heap.size+1) (by simp) ?_;intro g cap w4 hown4 hgrow4 hat4 hlt4;have H4:=hd_ (LoS.app (LoS.below HT7.out (br_.alloc nl_ _)) hown4 hgrow4 (hat4.imp id (fun h=>by omega)));clear hown4 hgrow4 hat4 hlt4)
     go_roundw
     case rel=>
      exact RRel.mk ⟨a+n,f,_,by omega,by omega,by simp;omega,HR2,H4⟩
     case measure=>
      have h5:=H4.out.sc.cells.2.1
      simp [h5,x1,intOf];omega
end Go.Proofs.YtdpkjpjkdmkkpaaGreatDoor
namespace Go.Proofs.YtdpkjpjkdmkkpaaGreatDoor
open Ad Go.RowKit Lx
def TC (w:World) (g:Nat) (ts:List Tok):Prop:=∀ j u,(zcY ts)[j]? = some u→w.cell? ⟨g,j,none⟩=some u
theorem zco {ts:List Tok} {i:Nat} {t:Tok} (h:ts[i]? = some t) (k:Nat) (hk:k < 5):(zcY ts)[i*5+k]? = (tokC t)[k]?:=by
 induction ts generalizing i with
 | nil=>simp at h
 | cons t0 ts ih=>
  cases i with
  | zero=>
   simp at h
   subst h
   simp only [zcY,List.flatMap_cons]
   rw [List.getElem?_append_left (by simp [tokC];omega)]
   simp
  | succ i=>
   have:=ih (i:=i) (by simpa using h)
   simp only [zcY,List.flatMap_cons] at this ⊢
   rw [List.getElem?_append_right (by simp [tokC];omega),show (i+1)*5+k - (tokC t0).length=i*5+k by simp [tokC];omega]
   exact this
theorem TC.cells {w:World} {g:Nat} {ts:List Tok} (h:TC w g ts) {i:Nat} {t:Tok} (hi:ts[i]? = some t) :
  w.cell? ⟨g,i*5,none⟩=some (.int .i64 t.tok)∧w.cell? ⟨g,i*5+1,none⟩=some (.int .i64 t.kind)∧w.cell? ⟨g,i*5+2,none⟩=some (.int .i64 t.n)∧w.cell? ⟨g,i*5+3,none⟩=some (.string ⟨t.text.toArray⟩)∧w.cell? ⟨g,i*5+4,none⟩=some (.int .i64 t.at_):=by
 refine ⟨?_,?_,?_,?_,?_⟩
 ·exact h _ _ (by rw [← Nat.add_zero (i*5),zco hi 0 (by omega)];rfl)
 ·exact h _ _ (by rw [zco hi 1 (by omega)];rfl)
 ·exact h _ _ (by rw [zco hi 2 (by omega)];rfl)
 ·exact h _ _ (by rw [zco hi 3 (by omega)];rfl)
 ·exact h _ _ (by rw [zco hi 4 (by omega)];rfl)
theorem TC.below {w w':World} {g:Nat} {ts:List Tok} (h:TC w g ts) (hb:Below w.heap.size w w'):TC w' g ts:=fun j u hj=>zab hb (h j u hj)
theorem TC.own {w:World} {B g cap n:Nat} {ts:List Tok} {x:Value} (ho:w.ownsRow B 107 5 x n (zcY ts)) (hx:x=.slice (some ⟨g,0,none⟩) n cap):TC w g ts:=by
 subst hx
 intro j u hj
 have h:=ho.cells (g:=g) rfl j u hj
 have hadd:(⟨g,0,none⟩:Addr).add j=⟨g,j,none⟩:=by unfold Addr.add;split <;> simp_all
 rw [hadd] at h
 exact h
end Go.Proofs.YtdpkjpjkdmkkpaaGreatDoor
