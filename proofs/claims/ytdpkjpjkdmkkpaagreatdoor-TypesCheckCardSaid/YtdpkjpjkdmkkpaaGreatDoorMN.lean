/- The walks through the reference's parser: init. -/
import Derived.Test.YtdpkjpjkdmkkpaaGreatDoorMM
set_option maxRecDepth 100000
set_option maxHeartbeats 16000000
namespace Go.Proofs.YtdpkjpjkdmkkpaaGreatDoor
open Go.RowKit Lx Pa
def zlL (w:World) (b g cap:Nat) (ts:List Tok) (o:Option Ini) (s':PS) (e:Ending) (w':World):Prop:=
 ∃ v,e=.returned v∧IniV w' (Btw w.heap.size w'.heap.size) o v∧Only b w w'∧Par w' b g cap ts s'
theorem zaX.shape {w:World} {P:Nat→Prop} {x:Ex} {row:List Value} (h:zaX w P x row) :
  ∃ op kd n nm fl a ln c ta,row=[.int .i64 op,.int .i64 kd,.int .i64 n,.string nm,.string fl,.slice a ln c,.int .i64 ta]:=by
 obtain ⟨op,kd,n,nm,fl,l,ta⟩:=x
 rw [zaX] at h
 obtain ⟨v,cs,h1,h2,_⟩:=h
 rcases h2 with ⟨_,_,h2⟩ | ⟨a,c,h2,_⟩
 ·subst h2;exact ⟨_,_,_,_,_,_,_,_,_,h1⟩
 ·subst h2;exact ⟨_,_,_,_,_,_,_,_,_,h1⟩
theorem IniV.one {W:World} {P:Nat→Prop} {X c:Nat} {row:List Value} {i:Ini} (hP:P X) (hc:zcd W X row) (he:zaX W P (zcI i) row):IniV W P (some i) (.slice (some ⟨X,0,none⟩) 1 c):=by
 refine ⟨row,.inr ⟨X,c,rfl,hP,hc,by simp⟩,?_⟩
 show zbB W P [zcI i] row
 rw [zbB]
 exact ⟨row,[],by simp,he,by rw [zbB]⟩
theorem IniV.none (W:World) (P:Nat→Prop):IniV W P none (.slice none 0 0):=⟨[],.inl ⟨rfl,rfl,rfl⟩,by show zbB W P [] [];rw [zbB]⟩
theorem zly {w0 w5 w8:World} {b lo:Nat} (hb:b < w0.heap.size) (h4:w0.heap.size≤lo) (ho:Only b w5 w8):zbR (Btw lo w5.heap.size) (Btw w0.heap.size w8.heap.size) w5 w8:=
 ⟨ho.sameOn (fun h=>by have:=h.1;omega),fun a h=>⟨by have:=h.1;omega,by have:=h.2;have:=ho.size;omega⟩⟩
theorem zjn {W:World} {lo hi n:Nat} {x:Ex} {row:List Value} (h:zaX W (Btw lo hi) x row) (hl:n≤lo):zaX W (Btw n hi) x row:=
 zaX.keeps ⟨fun _ _ _=>rfl,fun _ h=>⟨by have:=h.1;omega,h.2⟩⟩ x h
theorem Only.then {b:Nat} {w w1 w2:World} (h:Only b w w1) (k:Only b w1 w2):Only b w w2:=h.trans k
theorem zby (b:Nat) (w:World) (o:Obj):Only b w (w.alloc o):=(Only.refl b w).alloc o
theorem zih {b g cap:Nat} {ts:List Tok} {s s':PS} {o:Option Ini} {il:Bool} (hr:Pa.init ts il s=(o,s')) (hg:Pa.Good ts 50000 s) (w:World) (hx:Par w b g cap ts s) :
  Calls Tryz.prog 108 #[.pointer (some ⟨b,0,none⟩),.bool il] w (zlL w b g cap ts o s'):=by
 have F0:=hd_ (Fr.start hx)
 have hle:=hx.le
 have hen:=hx.ends
 have hlt:=hx.pb.lt
 obtain ⟨s0,hs0⟩:∃ s0,Pa.step ts il s=s0:=⟨_,rfl⟩
 have H0:=hd_ (fun W (hW:Par W b g cap ts s)=>zau hs0 hg W hW)
 have hg0:Pa.Good ts 50000 s0:=hs0▸hg.step hen il
 have hb0:s0.i≤200000:=by have:=hg0.2;omega
 obtain ⟨m,hm⟩:∃ m,is ts s0 [58,61]=m:=⟨_,rfl⟩
 obtain ⟨sq,hsq⟩:∃ sq,(if m=true then up s0 else s0)=sq:=⟨_,rfl⟩
 have he:eat ts s0 [58,61]=(m,sq):=by
  unfold eat
  rw [hm,← hsq]
  cases m <;> rfl
 have HE:=hd_ (fun W (hW:Par W b g cap ts s0)=>zbr (x:=⟨#[58,61]⟩) he hg0.1 hb0 W hW)
 have hgq:Pa.Good ts 50000 sq:=by
  rw [← hsq]
  cases m with
  | true=>rw [if_pos rfl];exact hg0.up hen (za2 hm)
  | false=>rw [if_neg (by simp)];exact hg0
 clear he
 unfold Pa.init at hr
 simp only [hs0,hm] at hr
 cases m with
 | false=>
  rw [if_neg (by simp)] at hr hsq
  subst hsq
  obtain ⟨sA,hsA⟩:∃ sA,Pa.step ts il s0=sA:=⟨_,rfl⟩
  rw [hsA] at hr
  injection hr with hr1 hr2
  have HA:=hd_ (fun W (hW:Par W b g cap ts s0)=>zau hsA hg0 W hW)
  have hgA:Pa.Good ts 50000 sA:=hsA▸hg0.step hen il
  have HM:=hd_ (fun W (hW:Par W b g cap ts sA)=>zaD (x:=⟨#[59]⟩) hr2 hgA.1 (by have:=hgA.2;omega) W hW)
  subst hr1
  clear hr2 hsA hgA hgq hm hg0 hb0 hg hx hs0 hle hen
  go_enter Tryz.func108,Tryz.ntmps108
  go_wp2_with fail
  refine (H0.out _ F0.out.par).mono ?_
  rintro e w1 ⟨rfl,ho,hp⟩
  have F1:=hd_ (F0.out.call ho hp)
  clear ho hp
  go_wp2_with fail
  refine (HE.out _ F1.out.par).mono ?_
  rintro e w2 ⟨rfl,ho,hp⟩
  have F2:=hd_ (F1.out.call ho hp)
  clear ho hp
  go_wp2_with fail
  refine (HA.out _ F2.out.par).mono ?_
  rintro e w3 ⟨rfl,ho,hp⟩
  have F3:=hd_ (F2.out.call ho hp)
  clear ho hp
  go_wp2_with fail
  refine (HM.out _ F3.out.par).mono ?_
  rintro e w4 ⟨rfl,ho,hp⟩
  have F4:=hd_ (F3.out.call ho hp)
  clear ho hp
  go_wp2
  go_ret
  exact ⟨_,rfl,IniV.none _ _,F4.out.only,F4.out.par⟩
 | true=>
  rw [if_pos rfl] at hr hsq
  rw [hsq] at hr
  obtain ⟨s1,hs1⟩:∃ s1,Pa.step ts il sq=s1:=⟨_,rfl⟩
  have H1:=hd_ (fun W (hW:Par W b g cap ts sq)=>zau hs1 hgq W hW)
  have hg1:Pa.Good ts 50000 s1:=hs1▸hgq.step hen il
  have hb1:s1.i≤200000:=by have:=hg1.2;omega
  obtain ⟨t,ht⟩:∃ t,T ts s1=t:=⟨_,rfl⟩
  have HT:=hd_ (fun W (hW:Par W b g cap ts s1)=>zbH ht hg1.1 W hW)
  obtain ⟨k,hk⟩:∃ k,is ts s1 [45]=k:=⟨_,rfl⟩
  obtain ⟨se,hse⟩:∃ se,(if k=true then up s1 else s1)=se:=⟨_,rfl⟩
  have he2:eat ts s1 [45]=(k,se):=by
   unfold eat
   rw [hk,← hse]
   cases k <;> rfl
  have HE2:=hd_ (fun W (hW:Par W b g cap ts s1)=>zbr (x:=⟨#[45]⟩) he2 hg1.1 hb1 W hW)
  have hge:Pa.Good ts 50000 se:=by
   rw [← hse]
   cases k with
   | true=>rw [if_pos rfl];exact hg1.up hen (za2 hk)
   | false=>rw [if_neg (by simp)];exact hg1
  simp only [hs1,hk,ht] at hr
  clear he2
  by_cases hik:(il&&k)=true
  ·rw [if_pos hik] at hr
   rw [Bool.and_eq_true] at hik
   obtain ⟨rfl,rfl⟩:=hik
   rw [if_pos rfl] at hse
   rw [hse] at hr
   obtain ⟨sl,hsl⟩:∃ sl,lines ts se=sl:=⟨_,rfl⟩
   have HN:=hd_ (fun W (hW:Par W b g cap ts se)=>zch hsl hge W hW)
   have hgl:Pa.Good ts 50000 sl:=hsl▸hge.lines hen
   obtain ⟨u,hu⟩:∃ u,T ts sl=u:=⟨_,rfl⟩
   have HU:=hd_ (fun W (hW:Par W b g cap ts sl)=>zbH hu hgl.1 W hW)
   obtain ⟨s3,hs3⟩:∃ s3,(if u.tok=3 then sl else fail sl u.at_ 130)=s3:=⟨_,rfl⟩
   have hg3:Pa.Good ts 50000 s3:=by
    rw [← hs3]
    split
    ·exact hgl
    ·exact (hgl.fail _ _ (by decide)).1
   simp only [hsl,hu,hs3] at hr
   obtain ⟨l,hl⟩:∃ l,(Pa.literal ts s3).1=l:=⟨_,rfl⟩
   obtain ⟨s2,hs2⟩:∃ s2,(Pa.literal ts s3).2=s2:=⟨_,rfl⟩
   rw [hl,hs2] at hr
   have HL:=hd_ (fun W (hW:Par W b g cap ts s3)=>zb6 (l:=l) (s':=s2) (by rw [← hl,← hs2]) hg3 W hW)
   have hg2:Pa.Good ts 50000 s2:=hs2▸hg3.literal hen
   obtain ⟨sA,hsA⟩:∃ sA,Pa.step ts true s2=sA:=⟨_,rfl⟩
   rw [hsA] at hr
   injection hr with hr1 hr2
   have HA:=hd_ (fun W (hW:Par W b g cap ts s2)=>zau hsA hg2 W hW)
   have hgA:Pa.Good ts 50000 sA:=hsA▸hg2.step hen true
   have HM:=hd_ (fun W (hW:Par W b g cap ts sA)=>zaD (x:=⟨#[59]⟩) hr2 hgA.1 (by have:=hgA.2;omega) W hW)
   subst hr1
   have HD:=hd_ (fun (W:World) (P:Nat→Prop) (a c:Nat) (h1:P a) (h2:zcd W a (litC l))=>zaX.one (c:=c) l t.at_ h1 h2)
   have HC:Hid (litC l=[.int .i64 l.op,.int .i64 l.kind,.int .i64 l.n,.string ⟨#[]⟩,.string ⟨#[]⟩,.slice none 0 0,.int .i64 l.at_]):=hd_ rfl
   simp only [litV] at HL
   obtain ⟨lo,lk,ln,la⟩:=l
   obtain ⟨tk,kd,nn,tx,ta⟩:=t
   obtain ⟨uk,ud,un,ux,ua⟩:=u
   simp only [tokV] at HT HU
   simp only at HL HD HC hs3
   clear hr2 hsA hgA hgq hm hg0 hb0 hg hx hs0 hle hen hs1 hg1 hb1 ht hge hsq hs2 hg2 hk hse hsl hgl hu hg3 hl
   have hf0:=zaV
   have hf4:=zbc
   by_cases h3:uk=3
   ·rw [if_pos h3] at hs3
    subst hs3
    have e1:(uk != 3)=false:=by simp [h3]
    clear h3
    go_enter Tryz.func108,Tryz.ntmps108
    go_wp2_with fail
    refine (H0.out _ F0.out.par).mono ?_
    rintro e w1 ⟨rfl,ho,hp⟩
    have F1:=hd_ (F0.out.call ho hp)
    clear ho hp
    go_wp2_with fail
    refine (HE.out _ F1.out.par).mono ?_
    rintro e w2 ⟨rfl,ho,hp⟩
    have F2:=hd_ (F1.out.call ho hp)
    clear ho hp
    go_wp2_with fail
    refine (H1.out _ F2.out.par).mono ?_
    rintro e w3 ⟨rfl,ho,hp⟩
    have F3:=hd_ (F2.out.call ho hp)
    clear ho hp
    go_wp2_with fail
    refine (HT.out _ F3.out.par).mono ?_
    rintro e w4 ⟨rfl,hb⟩
    have F4:=hd_ (F3.out.below hb)
    clear hb
    go_wp2_with fail
    have n4:w4.heap.size≠b:=by have:=F4.out.size;omega
    refine (HE2.out _ (F4.out.alloc _).par).mono ?_
    rintro e w5 ⟨rfl,ho,hp⟩
    have F5:=hd_ ((F4.out.alloc _).call ho hp)
    have T5:=hd_ ((Bl.new _ _ _).only ho n4)
    clear ho hp
    go_wp2_with fail
    refine (HN.out _ F5.out.par).mono ?_
    rintro e w6 ⟨rfl,ho,hp⟩
    have F6:=hd_ (F5.out.call ho hp)
    have T6:=hd_ (T5.out.only ho n4)
    clear ho hp
    go_wp2_with fail
    refine (HU.out _ F6.out.par).mono ?_
    rintro e w7 ⟨rfl,hb⟩
    have F7:=hd_ (F6.out.below hb)
    have T7:=hd_ (T6.out.below hb)
    clear hb
    have q4:=T7.out.cells5.2.2.2.2
    have k3:=T7.out.lt
    go_upto_region 10 with fail
    go_region_with ((go_at_call 126;refine (HL.out _ F7.out.drew.par).mono ?_;rintro e w8 ⟨rfl,ho,hp⟩;have F8:=hd_ (F7.out.drew.call ho hp);have T8:=hd_ (T7.out.drew.only ho n4);have p4:=T8.out.cells5.2.2.2.2;have k6:=T8.out.lt;clear ho hp))
    all_goals
     clear p4 k6
     refine zaa (P:=Exit.then _ _ _ _) (F:=fun W=>Fr w b g cap ts s2 W∧Bl W w8.heap.size #[.int .i64 lo,.int .i64 lk,.int .i64 ln,.string ⟨#[]⟩,.string ⟨#[]⟩,.slice none 0 0,.int .i64 la] 112∧Bl W (w8.heap.size+1) #[.int .i64 3,.int .i64 0,.int .i64 0,.string ⟨#[]⟩,.string ⟨#[]⟩,.slice (some ⟨w8.heap.size,0,none⟩) 1 1,.int .i64 ta] 112)
      ⟨(F8.out.alloc _).alloc _,(Bl.new _ _ _).alloc _,Bl.newAt _ (by simp)⟩ ?_
     intro w9 ⟨F9,A9,E9⟩
     have F9:=hd_ F9
     have A9:=hd_ A9
     have E9:=hd_ E9
     have na:w8.heap.size≠b:=by have:=F8.out.size;omega
     have ne:w8.heap.size+1≠b:=by have:=F8.out.size;omega
     go_wp2_with fail
     refine (HA.out _ F9.out.par).mono ?_
     rintro e w10 ⟨rfl,ho,hp⟩
     have F10:=hd_ (F9.out.call ho hp)
     have A10:=hd_ (A9.out.only ho na)
     have E10:=hd_ (E9.out.only ho ne)
     clear ho hp
     go_wp2_with fail
     refine (HM.out _ F10.out.par).mono ?_
     rintro e w11 ⟨rfl,ho,hp⟩
     have F11:=hd_ (F10.out.call ho hp)
     have A11:=hd_ (A10.out.only ho na)
     have E11:=hd_ (E10.out.only ho ne)
     clear ho hp
     go_wp2
     go_ret
     refine ⟨_,rfl,IniV.one (row:=[.int .i64 3,.int .i64 0,.int .i64 0,.string ⟨#[]⟩,.string ⟨#[]⟩,.slice (some ⟨w8.heap.size,0,none⟩) 1 1,.int .i64 ta]) ?_ E11.out.cellsF (HD.out _ _ _ _ ?_ (by rw [HC.out];exact A11.out.cellsF)),F11.out.only,F11.out.par⟩
     ·exact ⟨by have:=F8.out.size;omega,E11.out.lt⟩
     ·exact ⟨by have:=F8.out.size;omega,A11.out.lt⟩
   ·rw [if_neg h3] at hs3
    have HF:=hd_ (fun W (hW:Par W b g cap ts sl)=>za1 hs3 W hW)
    have e1:(uk != 3)=true:=by simp [h3]
    clear h3 hs3
    go_enter Tryz.func108,Tryz.ntmps108
    go_wp2_with fail
    refine (H0.out _ F0.out.par).mono ?_
    rintro e w1 ⟨rfl,ho,hp⟩
    have F1:=hd_ (F0.out.call ho hp)
    clear ho hp
    go_wp2_with fail
    refine (HE.out _ F1.out.par).mono ?_
    rintro e w2 ⟨rfl,ho,hp⟩
    have F2:=hd_ (F1.out.call ho hp)
    clear ho hp
    go_wp2_with fail
    refine (H1.out _ F2.out.par).mono ?_
    rintro e w3 ⟨rfl,ho,hp⟩
    have F3:=hd_ (F2.out.call ho hp)
    clear ho hp
    go_wp2_with fail
    refine (HT.out _ F3.out.par).mono ?_
    rintro e w4 ⟨rfl,hb⟩
    have F4:=hd_ (F3.out.below hb)
    clear hb
    go_wp2_with fail
    have n4:w4.heap.size≠b:=by have:=F4.out.size;omega
    refine (HE2.out _ (F4.out.alloc _).par).mono ?_
    rintro e w5 ⟨rfl,ho,hp⟩
    have F5:=hd_ ((F4.out.alloc _).call ho hp)
    have T5:=hd_ ((Bl.new _ _ _).only ho n4)
    clear ho hp
    go_wp2_with fail
    refine (HN.out _ F5.out.par).mono ?_
    rintro e w6 ⟨rfl,ho,hp⟩
    have F6:=hd_ (F5.out.call ho hp)
    have T6:=hd_ (T5.out.only ho n4)
    clear ho hp
    go_wp2_with fail
    refine (HU.out _ F6.out.par).mono ?_
    rintro e w7 ⟨rfl,hb⟩
    have F7:=hd_ (F6.out.below hb)
    have T7:=hd_ (T6.out.below hb)
    clear hb
    go_wp2_with fail
    refine (HU.out _ F7.out.par).mono ?_
    rintro e w8 ⟨rfl,hb⟩
    have F8:=hd_ (F7.out.below hb)
    have T8:=hd_ (T7.out.below hb)
    clear hb
    go_wp2_with fail
    refine (HF.out _ F8.out.par).mono ?_
    rintro e w9 ⟨rfl,ho,hp⟩
    have F9:=hd_ (F8.out.call ho hp)
    have T9:=hd_ (T8.out.only ho n4)
    clear ho hp
    have q4:=T9.out.cells5.2.2.2.2
    have k3:=T9.out.lt
    go_upto_region 10 with fail
    go_region_with ((go_at_call 126;refine (HL.out _ F9.out.drew.par).mono ?_;rintro e w10 ⟨rfl,ho,hp⟩;have F10:=hd_ (F9.out.drew.call ho hp);have T10:=hd_ (T9.out.drew.only ho n4);have p4:=T10.out.cells5.2.2.2.2;have k6:=T10.out.lt;clear ho hp))
    all_goals
     clear p4 k6
     refine zaa (P:=Exit.then _ _ _ _) (F:=fun W=>Fr w b g cap ts s2 W∧Bl W w10.heap.size #[.int .i64 lo,.int .i64 lk,.int .i64 ln,.string ⟨#[]⟩,.string ⟨#[]⟩,.slice none 0 0,.int .i64 la] 112∧Bl W (w10.heap.size+1) #[.int .i64 3,.int .i64 0,.int .i64 0,.string ⟨#[]⟩,.string ⟨#[]⟩,.slice (some ⟨w10.heap.size,0,none⟩) 1 1,.int .i64 ta] 112)
      ⟨(F10.out.alloc _).alloc _,(Bl.new _ _ _).alloc _,Bl.newAt _ (by simp)⟩ ?_
     intro w11 ⟨F11,A11,E11⟩
     have F11:=hd_ F11
     have A11:=hd_ A11
     have E11:=hd_ E11
     have na:w10.heap.size≠b:=by have:=F10.out.size;omega
     have ne:w10.heap.size+1≠b:=by have:=F10.out.size;omega
     go_wp2_with fail
     refine (HA.out _ F11.out.par).mono ?_
     rintro e w12 ⟨rfl,ho,hp⟩
     have F12:=hd_ (F11.out.call ho hp)
     have A12:=hd_ (A11.out.only ho na)
     have E12:=hd_ (E11.out.only ho ne)
     clear ho hp
     go_wp2_with fail
     refine (HM.out _ F12.out.par).mono ?_
     rintro e w13 ⟨rfl,ho,hp⟩
     have F13:=hd_ (F12.out.call ho hp)
     have A13:=hd_ (A12.out.only ho na)
     have E13:=hd_ (E12.out.only ho ne)
     clear ho hp
     go_wp2
     go_ret
     refine ⟨_,rfl,IniV.one (row:=[.int .i64 3,.int .i64 0,.int .i64 0,.string ⟨#[]⟩,.string ⟨#[]⟩,.slice (some ⟨w10.heap.size,0,none⟩) 1 1,.int .i64 ta]) ?_ E13.out.cellsF (HD.out _ _ _ _ ?_ (by rw [HC.out];exact A13.out.cellsF)),F13.out.only,F13.out.par⟩
     ·exact ⟨by have:=F10.out.size;omega,E13.out.lt⟩
     ·exact ⟨by have:=F10.out.size;omega,A13.out.lt⟩
  ·rw [if_neg hik] at hr
   obtain ⟨i,hi⟩:∃ i,(Pa.lit ts s1).1=i:=⟨_,rfl⟩
   obtain ⟨s2,hs2⟩:∃ s2,(Pa.lit ts s1).2=s2:=⟨_,rfl⟩
   rw [hi,hs2] at hr
   have HL:=hd_ (fun W (hW:Par W b g cap ts s1)=>zjR (n:=i) (s':=s2) (by rw [← hi,← hs2]) hg1 W hW)
   have hg2:Pa.Good ts 50000 s2:=hs2▸hg1.lit hen
   obtain ⟨sA,hsA⟩:∃ sA,Pa.step ts il s2=sA:=⟨_,rfl⟩
   rw [hsA] at hr
   injection hr with hr1 hr2
   have HA:=hd_ (fun W (hW:Par W b g cap ts s2)=>zau hsA hg2 W hW)
   have hgA:Pa.Good ts 50000 sA:=hsA▸hg2.step hen il
   have HM:=hd_ (fun W (hW:Par W b g cap ts sA)=>zaD (x:=⟨#[59]⟩) hr2 hgA.1 (by have:=hgA.2;omega) W hW)
   subst hr1
   obtain ⟨tk,kd,nn,tx,ta⟩:=t
   simp only [tokV] at HT
   clear hr2 hsA hgA hgq hm hg0 hb0 hg hx hs0 hle hen hs1 hg1 hb1 ht hge hsq hi hs2 hg2
   cases il with
   | false=>
    clear HE2 hik hk hse
    go_enter Tryz.func108,Tryz.ntmps108
    go_wp2_with fail
    refine (H0.out _ F0.out.par).mono ?_
    rintro e w1 ⟨rfl,ho,hp⟩
    have F1:=hd_ (F0.out.call ho hp)
    clear ho hp
    go_wp2_with fail
    refine (HE.out _ F1.out.par).mono ?_
    rintro e w2 ⟨rfl,ho,hp⟩
    have F2:=hd_ (F1.out.call ho hp)
    clear ho hp
    go_wp2_with fail
    refine (H1.out _ F2.out.par).mono ?_
    rintro e w3 ⟨rfl,ho,hp⟩
    have F3:=hd_ (F2.out.call ho hp)
    clear ho hp
    go_wp2_with fail
    refine (HT.out _ F3.out.par).mono ?_
    rintro e w4 ⟨rfl,hb⟩
    have F4:=hd_ (F3.out.below hb)
    clear hb
    go_wp2_with fail
    refine (HL.out _ (F4.out.alloc _).par).mono ?_
    rintro e w5 ⟨row,rfl,hd,ho,hp⟩
    have F5:=hd_ ((F4.out.alloc _).call ho hp)
    obtain ⟨op,kk,n,nm,fl,aa,ln,c,at9,rfl⟩:=hd.shape
    have D:=hd_ (zjn hd (F4.out.alloc _).size)
    clear ho hp hd
    go_wp2_with fail
    refine (HA.out _ (F5.out.alloc _).par).mono ?_
    rintro e w6 ⟨rfl,ho,hp⟩
    have F6:=hd_ ((F5.out.alloc _).call ho hp)
    have E6:=hd_ ((Bl.new _ _ _).only ho (by have:=F5.out.size;omega))
    have O6:=hd_ ((zby b w5 _).trans ho)
    clear ho hp
    go_wp2_with fail
    refine (HM.out _ F6.out.par).mono ?_
    rintro e w7 ⟨rfl,ho,hp⟩
    have F7:=hd_ (F6.out.call ho hp)
    have E7:=hd_ (E6.out.only ho (by have:=F5.out.size;omega))
    have OO:=hd_ (O6.out.trans ho)
    clear ho hp
    go_wp2
    go_ret
    refine ⟨_,rfl,IniV.one (row:=[.int .i64 op,.int .i64 kk,.int .i64 n,.string nm,.string fl,.slice aa ln c,.int .i64 at9]) ?_ E7.out.cellsF (D.out.keeps (zly hlt nl_ ?_) _),F7.out.only,F7.out.par⟩
    ·exact ⟨by have:=F5.out.size;omega,E7.out.lt⟩
    ·exact OO.out
   | true=>
    obtain rfl:k=false:=by simpa using hik
    rw [if_neg (by simp)] at hse
    subst hse
    clear hik hk
    go_enter Tryz.func108,Tryz.ntmps108
    go_wp2_with fail
    refine (H0.out _ F0.out.par).mono ?_
    rintro e w1 ⟨rfl,ho,hp⟩
    have F1:=hd_ (F0.out.call ho hp)
    clear ho hp
    go_wp2_with fail
    refine (HE.out _ F1.out.par).mono ?_
    rintro e w2 ⟨rfl,ho,hp⟩
    have F2:=hd_ (F1.out.call ho hp)
    clear ho hp
    go_wp2_with fail
    refine (H1.out _ F2.out.par).mono ?_
    rintro e w3 ⟨rfl,ho,hp⟩
    have F3:=hd_ (F2.out.call ho hp)
    clear ho hp
    go_wp2_with fail
    refine (HT.out _ F3.out.par).mono ?_
    rintro e w4 ⟨rfl,hb⟩
    have F4:=hd_ (F3.out.below hb)
    clear hb
    go_wp2_with fail
    refine (HE2.out _ (F4.out.alloc _).par).mono ?_
    rintro e w5 ⟨rfl,ho,hp⟩
    have F5:=hd_ ((F4.out.alloc _).call ho hp)
    clear ho hp
    go_wp2_with fail
    refine (HL.out _ (F5.out).par).mono ?_
    rintro e w6 ⟨row,rfl,hd,ho,hp⟩
    have F6:=hd_ ((F5.out).call ho hp)
    obtain ⟨op,kk,n,nm,fl,aa,ln,c,at9,rfl⟩:=hd.shape
    have D:=hd_ (zjn hd (F5.out).size)
    clear ho hp hd
    go_wp2_with fail
    refine (HA.out _ (F6.out.alloc _).par).mono ?_
    rintro e w7 ⟨rfl,ho,hp⟩
    have F7:=hd_ ((F6.out.alloc _).call ho hp)
    have E7:=hd_ ((Bl.new _ _ _).only ho (by have:=F6.out.size;omega))
    have O7:=hd_ ((zby b w6 _).trans ho)
    clear ho hp
    go_wp2_with fail
    refine (HM.out _ F7.out.par).mono ?_
    rintro e w8 ⟨rfl,ho,hp⟩
    have F8:=hd_ (F7.out.call ho hp)
    have E8:=hd_ (E7.out.only ho (by have:=F6.out.size;omega))
    have OO:=hd_ (O7.out.trans ho)
    clear ho hp
    go_wp2
    go_ret
    refine ⟨_,rfl,IniV.one (row:=[.int .i64 op,.int .i64 kk,.int .i64 n,.string nm,.string fl,.slice aa ln c,.int .i64 at9]) ?_ E8.out.cellsF (D.out.keeps (zly hlt nl_ ?_) _),F8.out.only,F8.out.par⟩
    ·exact ⟨by have:=F6.out.size;omega,E8.out.lt⟩
    ·exact OO.out
end Go.Proofs.YtdpkjpjkdmkkpaaGreatDoor
