/- The walks through package types: structs. -/
import Derived.Test.YtdpkjpjkdmkkpaaGreatDoorMU
set_option maxRecDepth 100000
set_option maxHeartbeats 16000000
namespace Go.Proofs.YtdpkjpjkdmkkpaaGreatDoor
open Ad Go.RowKit Lx Pa
theorem zeE {l:List PVar} {k:Nat} {f:PVar} {seen:List (List UInt8)} (h:l[k]? = some f) :
  Ty.fieldsErr seen (l.drop k)=if f.name ∈ seen then some (f.at_,151) else if Ty.scalar f.kind=false then some (f.at_,152) else if Ty.first f.init f.kind=false then some (f.at_,154) else Ty.fieldsErr (f.name::seen) (l.drop (k+1)):=by
 obtain ⟨hi,ha⟩:=List.getElem?_eq_some_iff.1 h
 rw [List.drop_eq_getElem_cons hi,ha,Ty.fieldsErr]
theorem zfo {l:List PVar} {k:Nat} {seen:List (List UInt8)} (h:l.length≤k):Ty.fieldsErr seen (l.drop k)=none:=by
 rw [List.drop_of_length_le h];rfl
theorem zeq {l:List zad} {k:Nat} {s:zad} {seen:List (List UInt8)} (h:l[k]? = some s) :
  Ty.structsErr seen (l.drop k)=if Ty.block s.name=true∨s.name ∈ seen then some (s.at_,151) else if s.fields.length=0∨256 < s.fields.length then some (s.at_,155) else match Ty.fieldsErr [] s.fields with
   | some e=>some e
   | none=>Ty.structsErr (s.name::seen) (l.drop (k+1)):=by
 obtain ⟨hi,ha⟩:=List.getElem?_eq_some_iff.1 h
 rw [List.drop_eq_getElem_cons hi,ha,Ty.structsErr]
 rfl
theorem zeL {l:List zad} {k:Nat} {seen:List (List UInt8)} (h:l.length≤k):Ty.structsErr seen (l.drop k)=none:=by
 rw [List.drop_of_length_le h];rfl
structure zdT (f:PVar):Prop where
 name:f.name.length≤100000
 ini:∀ i,f.init=some i→zdt i
 addr:f.addr.length≤100000
 lo:Is64 f.lo
 hi:Is64 f.hi
structure zlP (s:zad):Prop where
 name:s.name.length≤100000
 few:s.fields.length≤100000
 fields:∀ f ∈ s.fields,zdT f
theorem zbT.split {w:World} {P:Nat→Prop} {s:zad} {row:List Value} (h:zbT w P s row) :
  ∃ a c cs,row=[.string ⟨s.name.toArray⟩,.slice a s.fields.length c,.int .i64 s.at_]∧zce w P s.fields cs∧(0 < s.fields.length→∃ g,a=some ⟨g,0,Option.none⟩∧zaC w g cs):=by
 obtain ⟨v,h1,cs,h2,h3⟩:=h
 obtain ⟨a,c,h4,h5⟩:=h2.form
 refine ⟨a,c,cs,by rw [h1,h4],h3,fun hp=>?_⟩
 obtain ⟨g,h6,_,h7⟩:=h5 hp
 exact ⟨g,h6,h7⟩
theorem zhS {d:zaQ} {il:Bool} {row:List Value} {P:Nat→Prop} {r:Option (Int × Int)} (hr:Ty.structsErr [] d.structs=r) (w:World) (hd:zaF w P il d row) (hn:d.structs.length≤100000) (hok:∀ s ∈ d.structs,zlP s) :
  Calls Tryz.prog 34 #[.agg row.toArray] w fun e w'=>∃ v,e=.returned v∧ErrV w' r v∧Below w.heap.size w w':=by
 obtain ⟨vs,vv,bda,bdn,bdc,lna,lnn,lnc,rfl,⟨cs,hsl,hrows⟩,hv⟩:=hd
 obtain ⟨av,cv,rfl,hblk⟩:=hsl.form
 obtain ⟨au,nu,cu,rfl⟩:=hv.shape
 obtain ⟨N,hN⟩:∃ N,d.structs.length=N:=⟨_,rfl⟩
 have HN:=hd_ hN
 rw [hN] at hn hblk hsl ⊢
 have HR:=hd_ hr
 have HROWS:=hd_ hrows
 have HBLK:=hd_ hblk
 have HOK:=hd_ hok
 obtain ⟨nb,hnb⟩:∃ nb:ByteArray,(⟨d.name.toArray⟩:ByteArray)=nb:=⟨_,rfl⟩
 rw [hnb]
 have hmm:=@run_makeMap Tryz.prog
 clear hv hsl hr hrows hblk hN hnb hok
 go_enter Tryz.func34,Tryz.ntmps34
 go_upto_region 2 with fail
 refine zaa (P:=Code.wp _ _ _ _) (F:=fun W=>Bl W w.heap.size #[.string nb,.slice av N cv,.slice au nu cu,.bool il,.slice bda bdn bdc,.slice lna lnn lnc] 28∧MapS W (w.heap.size+1) []∧Below w.heap.size w W)
  ⟨(Bl.new _ _ _).alloc _,by simpa using MapS.start (w.alloc (.cells #[.string nb,.slice av N cv,.slice au nu cu,.bool il,.slice bda bdn bdc,.slice lna lnn lnc] 28)),(br_.alloc nl_ _).alloc (by simp) _⟩ ?_
 intro w1 ⟨P1,M1,B1⟩
 obtain ⟨-,p1,-,-,-,-⟩:=P1.cells6
 have k1:=P1.lt
 have M1:=hd_ M1
 have B1:=hd_ B1
 clear P1
 go_wp2_with fail
 go_loopw [13] (fun v13 wr=>RRel (∃ (i:Nat) (seen:List (List UInt8)),i≤N∧seen.length=i∧v13=.int .i64 i∧Hid (Ty.structsErr seen (d.structs.drop i)=r)∧Hid (MapS wr (w.heap.size+1) seen)∧Hid (Below w.heap.size w wr))) (fun v13 _=>N - (intOf v13).toNat)
 case atStart=>exact RRel.mk ⟨0,[],by omega,rfl,rfl,HR,M1,B1⟩
 case round=>
  obtain ⟨i,seen,hi,hsn,rfl,HR2,M2,B2⟩:=hrel.it
  clear hrel HR M1 B1 p1 k1
  obtain ⟨w2,rfl⟩:∃ w2,w2=wr:=⟨_,rfl⟩
  by_cases hlt:i < N
  ·obtain ⟨s,hs⟩:∃ s,d.structs[i]? = some s:=⟨d.structs[i]'(by have:=HN.out;omega),by rw [List.getElem?_eq_getElem]⟩
   have HNX:=hd_ (zeq (seen:=seen) hs)
   have HSO:=hd_ (HOK.out s (List.mem_of_getElem? hs))
   obtain ⟨rw',hsv,hcells⟩:=HROWS.out.get hs
   obtain ⟨sa,sc,fcs,hrw,hfr,hfc⟩:=hsv.split
   subst hrw
   obtain ⟨snm,hsnm⟩:∃ b:ByteArray,(⟨s.name.toArray⟩:ByteArray)=b:=⟨_,rfl⟩
   have HNM:Hid (snm.data.toList=s.name):=hd_ (by rw [← hsnm])
   obtain ⟨NF,hNF⟩:∃ n,s.fields.length=n:=⟨_,rfl⟩
   have HNF:=hd_ hNF
   obtain ⟨sat,hsat⟩:∃ n,s.at_=n:=⟨_,rfl⟩
   have HSAT:=hd_ hsat
   rw [hsnm,hNF,hsat] at hcells
   rw [hNF] at hfc
   obtain ⟨g,rfl,hPg,hca⟩:=HBLK.out (by omega)
   have d0:=hca (i*3+0) _ ((hcells 0 (by omega)).trans rfl)
   have d1:=hca (i*3+1) _ ((hcells 1 (by omega)).trans rfl)
   have d2:=hca (i*3+2) _ ((hcells 2 (by omega)).trans rfl)
   have kg:=zac d0
   replace d0:=zab B2.out d0
   replace d1:=zab B2.out d1
   replace d2:=zab B2.out d2
   have z0:0≤(i:Int):=by omega
   have z1:(i:Int) < N:=by omega
   have z2:(i:Int).toNat=i:=by omega
   have z3:IntKind.i64.wrap ((i:Int)+1)=(i:Int)+1:=IntWalk.i64_in _ (by omega)
   have kg2:g < w2.heap.size:=by have:=B2.out.size;omega
   have HFR:=hd_ hfr
   have HFC:=hd_ hfc
   have hnl:snm.size≤100000:=by
    have h1:=HSO.out.name
    rw [← HNM.out] at h1
    exact h1
   have hNFl:NF≤100000:=by rw [← hNF];exact HSO.out.few
   clear hsv hcells hPg hca hs hsnm hNF hsat hfr hfc
   simp only [Nat.add_zero] at d0
   obtain ⟨bl,hbl⟩:∃ bl,Ty.block s.name=bl:=⟨_,rfl⟩
   have HBL:=hd_ (fun W=>zcW (x:=snm) (r:=bl) (by rw [HNM.out];exact hbl) W)
   have HBV:=hd_ hbl
   clear hbl
   have kM:=M2.out.lt
   go_upto_region 5 with fail
   refine zaa (P:=Code.wp _ _ _ _) (F:=fun W=>Bl W w2.heap.size #[.string snm,.slice sa NF sc,.int .i64 sat] 64∧MapS W (w.heap.size+1) seen∧Below w.heap.size w W∧w2.heap.size < W.heap.size)
    ⟨Bl.new _ _ _,M2.out.alloc _,B2.out.alloc B2.out.size _,by simp⟩ ?_
   clear d0 d1 d2 kg2
   intro w3 ⟨S3,M3,B3,kS3⟩
   obtain ⟨y0,y1,y2⟩:=S3.cells3
   have S3:=hd_ S3
   have B3:=hd_ B3
   obtain ⟨c,hrun,c0,cl,ciff⟩:=M3.look snm (by unfold maxLen;omega)
   have CIFF:=hd_ ciff
   have M3:=hd_ M3
   clear ciff
   cases bl with
   | true=>
    have HRS:Hid (r=some (sat,151)):=hd_ (by rw [← HR2.out,HNX.out,if_pos (.inl HBV.out),HSAT.out])
    go_wp2_with (first | (go_at_call 19;refine (HBL.out _).mono ?_;rintro e w5 ⟨rfl,rfl⟩) | (go_at_call 35;refine (za5 sat 151 _).mono ?_;rintro e w6 ⟨v,rfl,hv,hb6⟩;have V6:=hd_ hv;have B6:=hd_ (zah B3.out hb6);clear hv hb6))
    go_ret
    exact ⟨_,rfl,by rw [HRS.out];exact V6.out,B6.out⟩
   | false=>
    by_cases hin:s.name ∈ seen
    ·have HRS:Hid (r=some (sat,151)):=hd_ (by rw [← HR2.out,HNX.out,if_pos (.inr hin),HSAT.out])
     have hc1:0 < c:=CIFF.out.2 (by rw [HNM.out];exact hin)
     clear hin
     go_wp2_with (first | (go_at_call 19;refine (HBL.out _).mono ?_;rintro e w5 ⟨rfl,rfl⟩) | (go_at_call 35;refine (za5 sat 151 _).mono ?_;rintro e w6 ⟨v,rfl,hv,hb6⟩;have V6:=hd_ hv;have B6:=hd_ (zah B3.out hb6);clear hv hb6))
     go_ret
     exact ⟨_,rfl,by rw [HRS.out];exact V6.out,B6.out⟩
    ·have hc1:¬ 0 < c:=fun h=>hin (by have:=CIFF.out.1 h;rw [HNM.out] at this;exact this)
     have HNB:Hid (¬ (Ty.block s.name=true∨s.name ∈ seen)):=hd_ (by rintro (h | h);rw [HBV.out] at h;cases h;exact hin h)
     clear hin
     by_cases hz:NF=0
     ·have HRS:Hid (r=some (sat,155)):=hd_ (by rw [← HR2.out,HNX.out,if_neg HNB.out,if_pos (.inl (by rw [HNF.out];exact hz)),HSAT.out])
      have e1:((NF:Int)==0)=true:=by simp;omega
      clear hz
      go_wp2_with (first | (go_at_call 19;refine (HBL.out _).mono ?_;rintro e w5 ⟨rfl,rfl⟩) | (go_at_call 35;refine (za5 sat 155 _).mono ?_;rintro e w6 ⟨v,rfl,hv,hb6⟩;have V6:=hd_ hv;have B6:=hd_ (zah B3.out hb6);clear hv hb6))
      go_ret
      exact ⟨_,rfl,by rw [HRS.out];exact V6.out,B6.out⟩
     ·by_cases hz2:256 < NF
      ·have HRS:Hid (r=some (sat,155)):=hd_ (by rw [← HR2.out,HNX.out,if_neg HNB.out,if_pos (.inr (by rw [HNF.out];exact hz2)),HSAT.out])
       have e1:((NF:Int)==0)=false:=by simp;omega
       have e2:(256:Int) < NF:=by omega
       clear hz2 hz
       go_wp2_with (first | (go_at_call 19;refine (HBL.out _).mono ?_;rintro e w5 ⟨rfl,rfl⟩) | (go_at_call 35;refine (za5 sat 155 _).mono ?_;rintro e w6 ⟨v,rfl,hv,hb6⟩;have V6:=hd_ hv;have B6:=hd_ (zah B3.out hb6);clear hv hb6))
       go_ret
       exact ⟨_,rfl,by rw [HRS.out];exact V6.out,B6.out⟩
      ·have e1:((NF:Int)==0)=false:=by simp;omega
       have e2:¬ (256:Int) < NF:=by omega
       have HRE:Hid (∀ e,Ty.fieldsErr [] s.fields=some e→r=some e):=hd_ (fun e he=>by
        rw [← HR2.out,HNX.out,if_neg HNB.out,if_neg (by rw [HNF.out];omega),he])
       have HRN:Hid (Ty.fieldsErr [] s.fields=none→r=Ty.structsErr (s.name::seen) (d.structs.drop (i+1))):=hd_ (fun he=>by
        rw [← HR2.out,HNX.out,if_neg HNB.out,if_neg (by rw [HNF.out];omega),he])
       obtain ⟨w4,hupd,m4,hg4⟩:=M3.out.upd (by omega) snm (by unfold maxLen;omega) c0 cl
       have M4:=hd_ m4
       have HG4:=hd_ hg4
       have z8:IntKind.i64.wrap (c+1)=c+1:=IntWalk.i64_in _ (by omega)
       have S4:=hd_ (S3.out.grown hg4 (by intro h;injection h with h;have:=B2.out.size;have:=kM;omega))
       have y1':=S4.out.cells3.2.1
       have k4:=S4.out.lt
       have B4:=hd_ (B3.out.grown hg4 B3.out.size (fun k hk=>by injection hk with hk;omega))
       clear m4 hg4
       go_upto_region 11 with (go_at_call 19;refine (HBL.out _).mono ?_;rintro e w5 ⟨rfl,rfl⟩)
       refine zaa (P:=Code.wp _ _ _ _) (F:=fun W=>Bl W w2.heap.size #[.string snm,.slice sa NF sc,.int .i64 sat] 64∧MapS W (w.heap.size+1) (snm.data.toList::seen)∧MapS W w4.heap.size []∧Below w.heap.size w W)
        ⟨S4.out.alloc _,M4.out.alloc _,MapS.start _,B4.out.alloc B4.out.size _⟩ ?_
       have kw4:w.heap.size+1 < w4.heap.size:=M4.out.lt
       clear y0 y1 y2 hrun hupd y1' k4 S3 S4 M3 M4 HG4 B3 B4 z8 e1 e2 hc1
       intro w5 ⟨S5,M5,N5,B5⟩
       have u1:=S5.cells3.2.1
       have k5:=S5.lt
       have M5:=hd_ M5
       have N5:=hd_ N5
       have B5:=hd_ B5
       clear S5
       go_wp2_with fail
       go_loopw [54] (fun v54 wr=>RRel (∃ (k:Nat) (fs:List (List UInt8)),k≤NF∧fs.length=k∧v54=.int .i64 k∧Hid (Ty.fieldsErr fs (s.fields.drop k)=Ty.fieldsErr [] s.fields)∧Hid (MapS wr w4.heap.size fs)∧Hid (MapS wr (w.heap.size+1) (snm.data.toList::seen))∧Hid (Below w.heap.size w wr))) (fun v54 _=>NF - (intOf v54).toNat)
       case atStart=>exact RRel.mk ⟨0,[],by omega,rfl,rfl,hd_ rfl,N5,M5,B5⟩
       case round=>
        obtain ⟨k,fs,hk,hfn,rfl,HF2,N6,M6,B6⟩:=hrel.it
        clear hrel N5 M5 B5 u1 k5
        obtain ⟨w6,rfl⟩:∃ w6,w6=wr:=⟨_,rfl⟩
        by_cases hkt:k < NF
        ·obtain ⟨f,hf⟩:∃ f,s.fields[k]? = some f:=⟨s.fields[k]'(by have:=HNF.out;omega),by rw [List.getElem?_eq_getElem]⟩
         have HFX:=hd_ (zeE (seen:=fs) hf)
         have HVO:=hd_ (HSO.out.fields f (List.mem_of_getElem? hf))
         obtain ⟨frw,hfv,hfcells⟩:=HFR.out.get hf
         obtain ⟨fi,hfrw,hini⟩:=hfv
         obtain ⟨ia,il9,ic,rfl⟩:=hini.slice
         subst hfrw
         obtain ⟨fnm,hfnm⟩:∃ b:ByteArray,(⟨f.name.toArray⟩:ByteArray)=b:=⟨_,rfl⟩
         have HFNM:Hid (fnm.data.toList=f.name):=hd_ (by rw [← hfnm])
         obtain ⟨fad,hfad⟩:∃ b:ByteArray,(⟨f.addr.toArray⟩:ByteArray)=b:=⟨_,rfl⟩
         obtain ⟨ftn,hftn⟩:∃ b:ByteArray,(⟨f.tname.toArray⟩:ByteArray)=b:=⟨_,rfl⟩
         rw [hfnm,hfad,hftn] at hfcells
         obtain ⟨fg,rfl,hfca⟩:=HFC.out (by omega)
         have b0:=hfca (k*10+0) _ ((hfcells 0 (by omega)).trans rfl)
         have b1:=hfca (k*10+1) _ ((hfcells 1 (by omega)).trans rfl)
         have b2:=hfca (k*10+2) _ ((hfcells 2 (by omega)).trans rfl)
         have b3:=hfca (k*10+3) _ ((hfcells 3 (by omega)).trans rfl)
         have b4:=hfca (k*10+4) _ ((hfcells 4 (by omega)).trans rfl)
         have b5:=hfca (k*10+5) _ ((hfcells 5 (by omega)).trans rfl)
         have b6:=hfca (k*10+6) _ ((hfcells 6 (by omega)).trans rfl)
         have b7:=hfca (k*10+7) _ ((hfcells 7 (by omega)).trans rfl)
         have b8:=hfca (k*10+8) _ ((hfcells 8 (by omega)).trans rfl)
         have b9:=hfca (k*10+9) _ ((hfcells 9 (by omega)).trans rfl)
         have kfg:=zac b0
         simp only [Nat.add_zero] at b0
         replace b0:=zab B6.out b0
         replace b1:=zab B6.out b1
         replace b2:=zab B6.out b2
         replace b3:=zab B6.out b3
         replace b4:=zab B6.out b4
         replace b5:=zab B6.out b5
         replace b6:=zab B6.out b6
         replace b7:=zab B6.out b7
         replace b8:=zab B6.out b8
         replace b9:=zab B6.out b9
         have x0:0≤(k:Int):=by omega
         have x1:(k:Int) < NF:=by omega
         have x2:(k:Int).toNat=k:=by omega
         have x3:IntKind.i64.wrap ((k:Int)+1)=(k:Int)+1:=IntWalk.i64_in _ (by omega)
         have kfg2:fg < w6.heap.size:=by have:=B6.out.size;omega
         have hfl:fnm.size≤100000:=by
          have h1:=HVO.out.name
          rw [← HFNM.out] at h1
          exact h1
         obtain ⟨kind,hkind⟩:∃ n,f.kind=n:=⟨_,rfl⟩
         have HKD:=hd_ hkind
         rw [hkind] at b1
         obtain ⟨fat,hfat⟩:∃ n,f.at_=n:=⟨_,rfl⟩
         have HFAT:=hd_ hfat
         rw [hfat] at b9
         have HINI:=hd_ hini
         have HSC:=hd_ (fun W=>zeo kind W)
         clear hfcells hfca hf hfnm hfad hftn hkind hfat hini
         have kN:=N6.out.lt
         go_upto_region 14 with fail
         refine zaa (P:=Code.wp _ _ _ _) (F:=fun W=>Bl W w6.heap.size #[.string fnm,.int .i64 kind,.int .i64 f.lo,.int .i64 f.hi,.int .i64 f.elem,.string ftn,.bool f.retain,.string fad,.slice ia il9 ic,.int .i64 fat] 54∧MapS W w4.heap.size fs∧MapS W (w.heap.size+1) (snm.data.toList::seen)∧Below w.heap.size w W)
          ⟨Bl.new _ _ _,N6.out.alloc _,M6.out.alloc _,B6.out.alloc B6.out.size _⟩ ?_
         clear b0 b1 b2 b3 b4 b5 b6 b7 b8 b9 kfg2
         intro w7 ⟨T7,N7,M7,B7⟩
         obtain ⟨q0,q1,-,-,-,-,-,-,q8,q9⟩:=T7.cells10
         have k7:=T7.lt
         obtain ⟨c2,hrun2,c20,c2l,c2iff⟩:=N7.look fnm (by unfold maxLen;omega)
         have C2:=hd_ c2iff
         have T7:=hd_ T7
         have N7:=hd_ N7
         have M7:=hd_ M7
         have B7:=hd_ B7
         clear c2iff
         by_cases hin:f.name ∈ fs
         ·have HRS:Hid (r=some (fat,151)):=hd_ (HRE.out _ (by rw [← HF2.out,HFX.out,if_pos hin,HFAT.out]))
          have hc2:0 < c2:=C2.out.2 (by rw [HFNM.out];exact hin)
          clear hin
          go_wp2_with (go_at_call 35;refine (za5 fat 151 _).mono ?_;rintro e w20 ⟨v,rfl,hv,hb20⟩;have V8:=hd_ hv;have B8:=hd_ (zah B7.out hb20);clear hv hb20)
          go_ret
          exact ⟨_,rfl,by rw [HRS.out];exact V8.out,B8.out⟩
         ·have hc2:¬ 0 < c2:=fun h=>hin (by have:=C2.out.1 h;rw [HFNM.out] at this;exact this)
          have HNI:=hd_ hin
          clear hin
          cases hsc:Ty.scalar kind with
          | false=>
           have HRS:Hid (r=some (fat,152)):=hd_ (HRE.out _ (by rw [← HF2.out,HFX.out,if_neg HNI.out,if_pos (by rw [HKD.out];exact hsc),HFAT.out]))
           go_wp2_with (first | (go_at_call 66;refine (HSC.out w7).mono ?_;rintro e w8 ⟨rfl,hb8⟩;have B8:=hd_ (zah B7.out hb8);have T8:=hd_ (T7.out.below hb8);have N8:=hd_ (N7.out.below hb8);have M8:=hd_ (M7.out.below hb8);obtain ⟨s0,s1,-,-,-,-,-,-,s8,s9⟩:=T8.out.cells10;have k8:=T8.out.lt;clear hb8) | (go_at_call 35;refine (za5 fat 152 _).mono ?_;rintro e w20 ⟨v,rfl,hv,hb20⟩;have V9:=hd_ hv;have B9:=hd_ (zah B8.out hb20);clear hv hb20))
           go_ret
           exact ⟨_,rfl,by rw [HRS.out];exact V9.out,B9.out⟩
          | true=>
           have hkk:1≤kind∧kind≤11:=by
            have h1:=hsc
            unfold Ty.scalar at h1
            simpa using h1
           obtain ⟨kn,rfl⟩:∃ kn:Nat,kind=kn:=⟨kind.toNat,by omega⟩
           obtain ⟨fb,hfb⟩:∃ fb,Ty.first f.init kn=fb:=⟨_,rfl⟩
           have HFI:=hd_ (fun W (hW:IniV W P f.init (.slice ia il9 ic))=>zcn hfb (by omega) (by omega) HVO.out.ini W hW)
           have HFB:=hd_ hfb
           have HSCV:=hd_ hsc
           clear hfb
           cases fb with
           | false=>
            have HRS:Hid (r=some (fat,154)):=hd_ (HRE.out _ (by rw [← HF2.out,HFX.out,if_neg HNI.out,if_neg (by rw [HKD.out,HSCV.out];simp),if_pos (by rw [HKD.out];exact HFB.out),HFAT.out]))
            go_wp2_with (first | (go_at_call 66;refine (HSC.out w7).mono ?_;rintro e w8 ⟨rfl,hb8⟩;have B8:=hd_ (zah B7.out hb8);have T8:=hd_ (T7.out.below hb8);have N8:=hd_ (N7.out.below hb8);have M8:=hd_ (M7.out.below hb8);obtain ⟨s0,s1,-,-,-,-,-,-,s8,s9⟩:=T8.out.cells10;have k8:=T8.out.lt;clear hb8) | (go_at_call 67;refine (HFI.out w8 (HINI.out.keeps (zai B8.out))).mono ?_;rintro e w9 ⟨rfl,hb9⟩;have B9:=hd_ (zah B8.out hb9);have T9:=hd_ (T8.out.below hb9);have N9:=hd_ (N8.out.below hb9);have M9:=hd_ (M8.out.below hb9);have t9:=T9.out.cells10.2.2.2.2.2.2.2.2.2;have kt9:=T9.out.lt;clear hb9) | (go_at_call 35;refine (za5 fat 154 _).mono ?_;rintro e w20 ⟨v,rfl,hv,hb20⟩;have V10:=hd_ hv;have B10:=hd_ (zah B9.out hb20);clear hv hb20))
            go_ret
            exact ⟨_,rfl,by rw [HRS.out];exact V10.out,B10.out⟩
           | true=>
            have HFE2:Hid (Ty.fieldsErr (f.name::fs) (s.fields.drop (k+1))=Ty.fieldsErr [] s.fields):=hd_ (by rw [← HF2.out,HFX.out,if_neg HNI.out,if_neg (by rw [HKD.out,HSCV.out];simp),if_neg (by rw [HKD.out,HFB.out];simp)])
            go_upto_region 20 with (first | (go_at_call 66;refine (HSC.out w7).mono ?_;rintro e w8 ⟨rfl,hb8⟩;have B8:=hd_ (zah B7.out hb8);have T8:=hd_ (T7.out.below hb8);have N8:=hd_ (N7.out.below hb8);have M8:=hd_ (M7.out.below hb8);obtain ⟨s0,s1,-,-,-,-,-,-,s8,s9⟩:=T8.out.cells10;have k8:=T8.out.lt;clear hb8) | (go_at_call 67;refine (HFI.out w8 (HINI.out.keeps (zai B8.out))).mono ?_;rintro e w9 ⟨rfl,hb9⟩;have B9:=hd_ (zah B8.out hb9);have T9:=hd_ (T8.out.below hb9);have N9:=hd_ (N8.out.below hb9);have M9:=hd_ (M8.out.below hb9);have t9:=T9.out.cells10.2.2.2.2.2.2.2.2.2;have kt9:=T9.out.lt;clear hb9))
            obtain ⟨c3,hrun3,c30,c3l,-⟩:=N9.out.look fnm (by unfold maxLen;omega)
            obtain ⟨w10,hupd3,n10,hg10⟩:=N9.out.upd (by omega) fnm (by unfold maxLen;omega) c30 c3l
            have N10:=hd_ n10
            have z9:IntKind.i64.wrap (c3+1)=c3+1:=IntWalk.i64_in _ (by omega)
            have M10:=hd_ (M9.out.kept hg10 (by intro h;injection h with h;omega))
            have B10:=hd_ (B9.out.grown hg10 B9.out.size (fun k hk=>by injection hk with hk;omega))
            have v0:=T9.out.cells10.1
            have k9:=T9.out.lt
            clear n10 hg10
            go_wp2_with fail
            go_roundw
            case rel=>exact RRel.mk ⟨k+1,fnm.data.toList::fs,by omega,by simp;omega,by simp,hd_ (by rw [HFNM.out];exact HFE2.out),N10,M10,B10⟩
            case measure=>simp [intOf];omega
        ·have HK:Hid (Ty.fieldsErr [] s.fields=none):=hd_ (by rw [← HF2.out];exact zfo (by have:=HNF.out;omega))
         have x1:¬ (k:Int) < NF:=by omega
         go_wp2_with fail
         go_roundw
         case rel=>exact RRel.mk ⟨i+1,snm.data.toList::seen,by omega,by simp;omega,by simp,hd_ (by rw [HRN.out HK.out,HNM.out]),M6,B6⟩
         case measure=>simp [intOf];omega
  ·have HRS:Hid (r=none):=hd_ (by rw [← HR2.out];exact zeL (by have:=HN.out;omega))
   have z1:¬ (i:Int) < N:=by omega
   go_wp2_with fail
   go_ret
   exact ⟨_,rfl,by rw [HRS.out];rfl,B2.out⟩
end Go.Proofs.YtdpkjpjkdmkkpaaGreatDoor
