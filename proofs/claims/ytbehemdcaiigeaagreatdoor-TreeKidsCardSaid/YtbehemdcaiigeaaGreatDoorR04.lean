/- Part of the proof that TreeKids answers true. -/
import Derived.Test.YtbehemdcaiigeaaGreatDoorR03
import Derived.Test.YtbehemdcaiigeaaGreatDoorR02
set_option linter.unusedVariables false
set_option linter.unusedSimpArgs false
set_option maxRecDepth 100000
set_option maxHeartbeats 4000000
namespace Go.Proofs.YtbehemdcaiigeaaGreatDoor
open Go Go.Am
theorem c5 {b c:Bool} (h:b=c) {g:FuncId} {args:List Value} {H:U} (k:bE E g args H (.ret (.bool b)) H []):bE E g args H (.ret (.bool c)) H []:=h▸k
theorem fh {G:U} {g:FuncId} {args:List Value} {H:U} {V:List Nat} {b:Bool} (h:aI E G g args H V (fun v _=>v=.bool b)):aI E G g args H V (fun v _=>(v=aN∧b=true)∨(v=Y∧b=false)):=h.mono fun v _ hv=>by
 cases b with
 |true=>exact .inl ⟨hv,rfl⟩
 |false=>exact .inr ⟨hv,rfl⟩
theorem drop_cons {α:Type} {l:List α} {i:Nat} {a:α} (h:l[i]?=some a):l.drop i=a::l.drop (i+1):=by
 have hi:=List.getElem?_eq_some_iff.1 h
 rw [List.drop_eq_getElem_cons hi.1,hi.2]
theorem fR {i:Int} (h:0≤i):(i+1).toNat=i.toNat+1:=D
def eH (ws:List ByteArray):List Value:=ws.map .string
def hasB (s:ByteArray):List ByteArray→Bool
 |[]=>false
 |w::ws=>(s.toList==w.toList)||hasB s ws
theorem vg {α:Type} {F:List α→Bool} {g:α→Bool} (h1:∀ a l,F (a::l)=(g a||F l)) {l:List α} {i:Nat} {a:α} {R:Bool} (h:l[i]?=some a) (hR:F (l.drop i)=R) (hg:g a=false):F (l.drop (i+1))=R:=by
 rw [drop_cons h,h1,hg] at hR;exact hR
theorem vf {α:Type} {F:List α→Bool} {g:α→Bool} (h1:∀ a l,F (a::l)=(g a||F l)) {l:List α} {i:Nat} {a:α} {R:Bool} (h:l[i]?=some a) (hR:F (l.drop i)=R) (hg:g a=true):R=true:=by
 rw [drop_cons h,h1,hg] at hR;exact hR.symm
theorem ve {α:Type} {F:List α→Bool} (h0:F []=false) {l:List α} {i:Nat} {R:Bool} (hR:F (l.drop i)=R) (h:l.length≤i):R=false:=by
 rw [List.drop_of_length_le h,h0] at hR;exact hR.symm
theorem yr {ws:List ByteArray} {i:Nat} (h:i<ws.length):∃ t,ws[i]?=some t∧(eH ws)[i]?=some (.string t):=
 ⟨ws[i],gI h,by rw [eH,List.getElem?_map,gI h];rfl⟩
def eS (c:Int) (l:List Int):Bool:=l.any fun d=>c==d
def sU (t:ByteArray) (c:Int):Bool:=eS c (t.data.toList.map fun b=>(b.toNat:Int))
def mE (s:ByteArray) (c:Int):Int:=match (List.range s.size).find? fun i=>s[i]! == c.toNat.toUInt8 with
 |some i=>goIx i
 |none=>-1
where goIx (i:Nat):Int:=i
theorem ah0 {c:Int} (h0:0≤c) (h1:c<256):((c.toNat.toUInt8).toNat:Int)=c:=by
 have:c.toNat.toUInt8.toNat=c.toNat%256:=by simp [Nat.toUInt8]
 omega
theorem B9 {s:ByteArray} {c:Int} (h0:0≤c) (h1:c<256):decide (mE s c≥0)=sU s c:=by
 have hb:∀ i,i<s.size→s[i]! = s.data.toList[i]?.getD 0:=fun i hi=>by
  rw [getElem!_pos s i hi]
  have:i<s.data.toList.length:=by simpa using hi
  rw [gI this]
  simp [ByteArray.getElem_eq_getElem_data]
 have hc:=ah0 h0 h1
 unfold mE
 split
 ·rename_i i hi
  have h2:=List.find?_some hi
  have h3:=List.mem_of_find?_eq_some hi
  rw [List.mem_range] at h3
  rw [show decide (mE.goIx i≥0)=true from decide_eq_true (by unfold mE.goIx;omega)]
  symm
  unfold sU eS
  rw [List.any_map,List.any_eq_true]
  have h4:i<s.data.toList.length:=by simpa using h3
  refine ⟨s.data.toList[i],List.getElem_mem h4,?_⟩
  have h5:=pu h2
  rw [hb i h3,gI h4] at h5
  simp only [Option.getD_some] at h5
  simp only [Function.comp,h5,beq_iff_eq]
  omega
 ·rename_i hn
  rw [show decide ((-1:Int)≥0)=false by decide]
  symm
  unfold sU eS
  rw [List.any_map,List.any_eq_false]
  intro b hm
  obtain ⟨i,hi,rfl⟩:=List.getElem_of_mem hm
  rw [List.find?_eq_none] at hn
  have h3:i<s.size:=by simpa using hi
  have h4:=hn i (List.mem_range.2 h3)
  rw [hb i h3,gI hi] at h4
  simp only [Option.getD_some,beq_iff_eq] at h4
  simp only [Function.comp,beq_iff_eq]
  intro h5
  apply h4
  have h6:(s.data.toList[i]).toNat=(c.toNat.toUInt8).toNat:=D
  exact UInt8.toNat_inj.1 h6
def gJ (c:Int):Bool:=(c==95)||((c==58)||((decide (c≥97)&&decide (c≤122))||(decide (c≥65)&&decide (c≤90))))
def iq (c:Int):Bool:=decide (c≥48)&&decide (c≤57)
def ii (c:Int):Bool:=gJ c||iq c
def gY (c:Int):Bool:=(c==95)||((decide (c≥97)&&decide (c≤122))||((decide (c≥65)&&decide (c≤90))||(decide (c≥48)&&decide (c≤57))))
def nQ (c:Int):Bool:=decide (mE ⟨#[32,9,10,13]⟩ c≥0)
def rf (c:Int):Bool:=c != 10
def gd (p:Int→Bool) (s:ByteArray) (i:Int):Int:=if h:i<s.size∧p (ac s i)=true then gd p s (i+1) else i
termination_by ((s.size:Int)-i).toNat
theorem oQ {p:Int→Bool} {s:ByteArray} {i R:Int} (h:i<s.size) (hp:p (ac s i)=true) (hR:gd p s i=R):gd p s (i+1)=R:=by rw [gd,dif_pos ⟨h,hp⟩] at hR;exact hR
theorem ny {p:Int→Bool} {s:ByteArray} {i R:Int} (hp:p (ac s i)=false) (hR:gd p s i=R):R=i:=by rw [gd,dif_neg (by simp [hp])] at hR;exact hR.symm
theorem At {p:Int→Bool} {s:ByteArray} {i R:Int} (h:¬ i<s.size) (hR:gd p s i=R):R=i:=by rw [gd,dif_neg (by simp [h])] at hR;exact hR.symm
theorem G1 (p:Int→Bool) (s:ByteArray) (i:Int):i≤gd p s i∧(i≤s.size→gd p s i≤s.size):=by
 rw [gd]
 split
 ·rename_i h
  have:=G1 p s (i+1)
  omega
 ·omega
termination_by ((s.size:Int)-i).toNat
theorem agc {p:Int→Bool} {s:ByteArray} {i:Int} (h:i<s.size) (hp:p (ac s i)=true):i<gd p s i:=by
 have h1:=oQ h hp rfl
 have:=(G1 p s (i+1)).1
 omega
theorem acf {c:Int} (h0:0≤c) (h1:c<256) (h:gJ c=true):nQ c=false∧c≠35:=by
 have e:nQ c=eS c [32,9,10,13]:=B9 h0 h1
 rw [e]
 simp only [gJ,Bool.or_eq_true,dI,decide_eq_true_eq,beq_iff_eq] at h
 refine ⟨?_,D⟩
 simp only [eS,List.any_cons,List.any_nil,Bool.or_false,Bool.or_eq_false_iff,beq_eq_false_iff_ne]
 omega
def jD (p:Int→Bool) (s:ByteArray) (i:Int):ByteArray:=s.extract i.toNat (gd p s i).toNat
theorem Ms (p:Int→Bool) (s:ByteArray) {i:Int} (h0:0≤i) (h1:i≤s.size):((jD p s i).size:Int)=gd p s i-i:=by
 have:=G1 p s i
 rw [jD,yX];omega
theorem Mr (p:Int→Bool) (s:ByteArray) {i:Int} (h0:0≤i) (h1:i≤s.size):i+((jD p s i).size:Int)≤s.size:=by
 have:=G1 p s i
 rw [Ms p s h0 h1];omega
theorem KF {s:ByteArray} {i:Int} (h0:0≤i) (h1:i≤s.size) (hb:0≤ac s i∧ac s i<256) (h:gJ (ac s i)=true):((jD nQ s i).size:Int)=0∧ac s i≠35:=by
 have h2:=acf hb.1 hb.2 h
 have:=ny h2.1 rfl
 rw [Ms _ s h0 h1]
 exact ⟨D,h2.2⟩
theorem aiF {s:ByteArray} {i:Int} (h0:0≤i) (h1:i<s.size) (h:gJ (ac s i)=true):0<((jD ii s i).size:Int):=by
 have:=agc (p:=ii) h1 (by rw [ii,h];rfl)
 rw [Ms _ s h0 D];omega
def pr (s:ByteArray):Bool:=s.toList==(⟨#[]⟩:ByteArray).toList
def Nw (s:ByteArray) (i k:Int) (t:ByteArray) (n:Int):Prop:=
 (gJ (ac s i)=true∧k=1∧t=jD ii s i∧n=(t.size:Int)∧0<n)∨(gJ (ac s i)=false∧(n=0∨k≠1))
def ajc (s:ByteArray) (i k a:Int) (t:ByteArray) (n:Int):Prop:=
 0<n∧a=i∧((gJ (ac s i)=true∧k=1∧t=jD ii s i∧n=(t.size:Int))∨(gJ (ac s i)=false∧k≠1))
def isWord (s:ByteArray):Bool:=decide (0<(s.size:Int))&&(gJ (ac s 0)&&gd ii s 0==(s.size:Int))
theorem aao {s:ByteArray} (h:gJ (ac s 0)=false):isWord s=false:=by rw [isWord,h,Bool.false_and,Bool.and_false]
theorem aap {s:ByteArray} (h:¬ 0<(s.size:Int)):isWord s=false:=by rw [isWord,decide_eq_false h,Bool.false_and]
def ajd (s:ByteArray) (ts:List (Int×Int×ByteArray)) (p:Int):Prop:=
 (isWord s=true→ts=[(1,0,s)]∧p=s.size)∧(ts.head?=some (1,0,s)→isWord s=true)
theorem Cq {c:Int} (h:c=95∨(97≤c∧c≤122)∨(65≤c∧c≤90)∨(48≤c∧c≤57)):gY c=true:=by
 simp only [gY,Bool.or_eq_true,dI,decide_eq_true_eq,beq_iff_eq];omega
theorem Cp {c:Int} (h:¬ (c=95∨(97≤c∧c≤122)∨(65≤c∧c≤90)∨(48≤c∧c≤57))):gY c=false:=by
 cases e:gY c with
 |false=>rfl
 |true=>simp only [gY,Bool.or_eq_true,dI,decide_eq_true_eq,beq_iff_eq] at e;omega
theorem zm {c:Int} (h:48≤c∧c≤57):iq c=true:=by simp only [iq,dI,decide_eq_true_eq];omega
theorem zl {c:Int} (h:¬ (48≤c∧c≤57)):iq c=false:=by
 cases e:iq c with
 |false=>rfl
 |true=>simp only [iq,dI,decide_eq_true_eq] at e;omega
def iY (s:ByteArray):Bool:=!(s.toList==(⟨#[]⟩:ByteArray).toList)&&(!decide ((s.size:Int)>200)&&(!iq (ac s 0)&&gd gY s 0==(s.size:Int)))
theorem Cr {c:Int} (h:c=95∨c=58∨(97≤c∧c≤122)∨(65≤c∧c≤90)):gJ c=true:=by
 simp only [gJ,Bool.or_eq_true,dI,decide_eq_true_eq,beq_iff_eq];omega
theorem vR {c:Int} (h:¬ (c=95∨c=58∨(97≤c∧c≤122)∨(65≤c∧c≤90))):gJ c=false:=by
 cases e:gJ c with
 |false=>rfl
 |true=>simp only [gJ,Bool.or_eq_true,dI,decide_eq_true_eq,beq_iff_eq] at e;omega
theorem DL {c:Int} (h:c=95∨c=58∨(97≤c∧c≤122)∨(65≤c∧c≤90)∨(48≤c∧c≤57)):ii c=true:=by
 by_cases h2:48≤c∧c≤57
 ·rw [ii,zm h2,Bool.or_true]
 ·rw [ii,Cr D,Bool.true_or]
theorem yw {c:Int} (h:¬ (c=95∨c=58∨(97≤c∧c≤122)∨(65≤c∧c≤90)∨(48≤c∧c≤57))):ii c=false:=by
 rw [ii,vR D,zl D];rfl
theorem aar {s:ByteArray} (h0:0<(s.size:Int)) (h1:gJ (ac s 0)=true) (h2:gd ii s 0=s.size):isWord s=true:=by
 rw [isWord,decide_eq_true h0,h1,beq_iff_eq.2 h2];rfl
theorem aaq {s:ByteArray} (h:gd ii s 0<s.size∨gJ (ac s 0)=false):isWord s=false:=by
 rcases h with h |h
 ·rw [isWord,show (gd ii s 0==(s.size:Int))=false from beq_eq_false_iff_ne.2 D,Bool.and_false,Bool.and_false]
 ·exact aao h
theorem TH {a b:ByteArray} {r:Bool} (h:(a.toList==b.toList)=r):(b.toList==a.toList)=r:=by
 rw [← h,Bool.eq_iff_iff,beq_iff_eq,beq_iff_eq];exact eq_comm
theorem adn {s:ByteArray} (h0:0<(s.size:Int)) (h1:¬ (s.size:Int)>200) (h2:iq (ac s 0)=false) (h3:gd gY s 0=s.size):iY s=true:=by
 have e:(s.toList==(⟨#[]⟩:ByteArray).toList)=false:=by
  cases e:s.toList==(⟨#[]⟩:ByteArray).toList with
  |false=>rfl
  |true=>have:=Tx e;omega
 rw [iY,e,decide_eq_false h1,h2,beq_iff_eq.2 h3];rfl
theorem KT {s:ByteArray} (h:¬ 0<(s.size:Int)∨(s.size:Int)>200∨iq (ac s 0)=true∨gd gY s 0≠s.size):iY s=false:=by
 cases e:iY s with
 |false=>rfl
 |true=>
  simp only [iY,dI,Bool.not_eq_true',decide_eq_false_iff_not,beq_iff_eq] at e
  obtain ⟨e1,e2,aM,aG⟩:=e
  have:=Tw e1
  rcases h with h |h |h |h
  ·omega
  ·exact absurd h e2
  ·rw [aM] at h;cases h
  ·exact absurd aG h
theorem acn (c:Int) {H:U} (y:aa E G H):aI E G 207 [ab c] H [] (fun v H'=>v=(.bool (gJ c))):=by
 refine br Tryz.f207 y ?_
 refine cS 2 c 95 ?_ ?_ <;> intro h1 q1
 ·exact al 7 aN H (by rw [gJ,h1] <;> rfl)
 refine cS 2 c 58 ?_ ?_ <;> intro h2 cw
 ·exact al 6 aN H (by rw [gJ,h1,h2] <;> rfl)
 refine aO 3 (c≥97) ?_ ?_ <;> intro h3 dv
 ·refine aO 2 (c≤122) ?_ ?_ <;> intro h4 dT
  ·exact al 5 aN H (by rw [gJ,h1,h2,h3,h4] <;> rfl)
  refine aO 4 (c≥65) ?_ ?_ <;> intro h5 ff
  ·refine aO 2 (c≤90) ?_ ?_ <;> intro h6 e7
   ·exact al 3 aN H (by rw [gJ,h1,h2,h3,h4,h5,h6] <;> rfl)
   exact al 3 Y H (by rw [gJ,h1,h2,h3,h4,h5,h6] <;> rfl)
  exact al 4 Y H (by rw [gJ,h1,h2,h3,h4,h5] <;> rfl)
 refine aO 5 (c≥65) ?_ ?_ <;> intro h4 dT
 ·refine aO 2 (c≤90) ?_ ?_ <;> intro h5 ff
  ·exact al 3 aN H (by rw [gJ,h1,h2,h3,h4,h5] <;> rfl)
  exact al 3 Y H (by rw [gJ,h1,h2,h3,h4,h5] <;> rfl)
 exact al 4 Y H (by rw [gJ,h1,h2,h3,h4] <;> rfl)
theorem Fx (c:Int):∀{H:U},aa E G H→bE E 207 [ab c] H (.ret (.bool (gJ c))) H []:=by
 obtain ⟨_,_,c,_,_,rfl⟩:=acn c gE
 exact fun y=>gx (iP rfl) (.ground rfl) c y
theorem acm (c:Int) {H:U} (y:aa E G H):aI E G 209 [ab c] H [] (fun v H'=>v=(.bool (iq c))):=by
 refine br Tryz.f209 y ?_
 refine aO 2 (c≥48) ?_ ?_ <;> intro h1 q1
 ·refine aO 2 (c≤57) ?_ ?_ <;> intro h2 cw
  ·exact al 2 aN H (by rw [iq,h1,h2] <;> rfl)
  exact al 2 Y H (by rw [iq,h1,h2] <;> rfl)
 exact al 3 Y H (by rw [iq,h1] <;> rfl)
theorem Qo (c:Int):∀{H:U},aa E G H→bE E 209 [ab c] H (.ret (.bool (iq c))) H []:=by
 obtain ⟨_,_,c,_,_,rfl⟩:=acm c gE
 exact fun y=>gx (iP rfl) (.ground rfl) c y
theorem acg (c:Int) {H:U} (y:aa E G H):aI E G 117 [ab c] H [] (fun v H'=>v=(.bool (gY c))):=by
 refine br Tryz.f117 y ?_
 refine cS 2 c 95 ?_ ?_ <;> intro h1 q1
 ·exact al 7 aN H (by rw [gY,h1] <;> rfl)
 refine aO 2 (c≥97) ?_ ?_ <;> intro h2 cw
 ·refine aO 2 (c≤122) ?_ ?_ <;> intro h3 dv
  ·exact al 7 aN H (by rw [gY,h1,h2,h3] <;> rfl)
  refine aO 4 (c≥65) ?_ ?_ <;> intro h4 dT
  ·refine aO 2 (c≤90) ?_ ?_ <;> intro h5 ff
   ·exact al 5 aN H (by rw [gY,h1,h2,h3,h4,h5] <;> rfl)
   refine aO 4 (c≥48) ?_ ?_ <;> intro h6 e7
   ·refine aO 2 (c≤57) ?_ ?_ <;> intro h7 mR
    ·exact al 3 aN H (by rw [gY,h1,h2,h3,h4,h5,h6,h7] <;> rfl)
    exact al 3 Y H (by rw [gY,h1,h2,h3,h4,h5,h6,h7] <;> rfl)
   exact al 4 Y H (by rw [gY,h1,h2,h3,h4,h5,h6] <;> rfl)
  refine aO 5 (c≥48) ?_ ?_ <;> intro h5 ff
  ·refine aO 2 (c≤57) ?_ ?_ <;> intro h6 e7
   ·exact al 3 aN H (by rw [gY,h1,h2,h3,h4,h5,h6] <;> rfl)
   exact al 3 Y H (by rw [gY,h1,h2,h3,h4,h5,h6] <;> rfl)
  exact al 4 Y H (by rw [gY,h1,h2,h3,h4,h5] <;> rfl)
 refine aO 5 (c≥65) ?_ ?_ <;> intro h3 dv
 ·refine aO 2 (c≤90) ?_ ?_ <;> intro h4 dT
  ·exact al 5 aN H (by rw [gY,h1,h2,h3,h4] <;> rfl)
  refine aO 4 (c≥48) ?_ ?_ <;> intro h5 ff
  ·refine aO 2 (c≤57) ?_ ?_ <;> intro h6 e7
   ·exact al 3 aN H (by rw [gY,h1,h2,h3,h4,h5,h6] <;> rfl)
   exact al 3 Y H (by rw [gY,h1,h2,h3,h4,h5,h6] <;> rfl)
  exact al 4 Y H (by rw [gY,h1,h2,h3,h4,h5] <;> rfl)
 refine aO 5 (c≥48) ?_ ?_ <;> intro h4 dT
 ·refine aO 2 (c≤57) ?_ ?_ <;> intro h5 ff
  ·exact al 3 aN H (by rw [gY,h1,h2,h3,h4,h5] <;> rfl)
  exact al 3 Y H (by rw [gY,h1,h2,h3,h4,h5] <;> rfl)
 exact al 4 Y H (by rw [gY,h1,h2,h3,h4] <;> rfl)
theorem letter (c:Int):∀{H:U},aa E G H→bE E 117 [ab c] H (.ret (.bool (gY c))) H []:=by
 obtain ⟨_,_,c,_,_,rfl⟩:=acg c gE
 exact fun y=>gx (iP rfl) (.ground rfl) c y
noncomputable def Ww:Code:=cN [1,1,0,1,0,0] (cH Tryz.f94)
theorem QX (s:ByteArray) (R:Int):∀(m:Nat) (pS:Int) (H:U),aa E G H→(hs:(s.size:Int)<100000)→(x0:0≤pS)→(x1:pS≤(s.size:Int))→(hR:gd gY s pS=R)→((s.size:Int)-pS).toNat=m→
  cy E G 32 Ww [(0,.string s),(22,J (s.size:Int)),(23,J pS)] H [] (fun x T H'=>(x=(.exit 0)∧T=bl []∧(R=s.size))∨(x=.ret∧T=bl [(2,Y)]∧(R<s.size))):=by
 refine d8 fun m ih=>?_
 intro pS H y hs x0 x1 hR hm
 refine c9 y ?_
 refine aO 0 (pS<(s.size:Int)) ?_ ?_ <;> intro h1 q1
 ·refine bR 4 pS (s.size:Int)<|?_
  cases h2:(gY (ac s pS)) with
  |true=>
   exact ad 0 (c5 h2 (letter (ac s pS) y))<|ap 1 (pS+1)<|dU 1 [(0,.string s),(22,J (s.size:Int)),(23,J (pS+1))] H (ih _ D (pS+1) _ y hs D D (oQ D h2 hR) rfl)
  |false=>
   exact ad 0 (c5 h2 (letter (ac s pS) y))<|dF 2 [(2,Y)] .ret H (.inr ⟨rfl,rfl,(by have:=ny h2 hR;omega)⟩)
 exact dF 0 [] (.exit 0) H (.inl ⟨rfl,rfl,(by have:=At D hR;omega)⟩)
theorem adl (s:ByteArray) {H:U} (y:aa E G H) (hs:(s.size:Int)<100000):aI E G 94 [.string s] H [] (fun v H'=>v=(.bool (iY s))):=by
 refine br Tryz.f94 y ?_
 refine oS 2 (s.toList==(⟨#[]⟩:ByteArray).toList) (fun h1=>?_) fun h1=>?_
 ·exact al 5 Y H (by rw [iY,h1] <;> rfl)
 have q1:=Tw h1
 refine aO 3 ((s.size:Int)>200) ?_ ?_ <;> intro h2 cw
 ·exact al 4 Y H (by rw [iY,h1,h2] <;> rfl)
 refine bR 3 (0:Int) (s.size:Int)<|aO 0 ((ac s 0)≥48) ?_ ?_ <;> intro h3 dv
 ·refine bR 2 (0:Int) (s.size:Int)<|aO 0 ((ac s 0)≤57) ?_ ?_ <;> intro h4 dT
  ·exact al 3 Y H (by rw [iY,h1,h2,show iq (ac s 0)=_ from (by rw [iq,h3,h4]:iq (ac s 0)=(true&&true))] <;> rfl)
  obtain ⟨_,_,H1,c1,af,y1,b7⟩:=(QX s (gd gY s 0) _ 0 _ y hs D D rfl rfl).code
  rcases b7 with ⟨rfl,rfl,cM⟩ |⟨rfl,rfl,cM⟩
  ·exact bW 5 c1<|al 1 aN H1 (by rw [iY,h1,h2,show iq (ac s 0)=_ from (by rw [iq,h3,h4]:iq (ac s 0)=(true&&false)),show (gd gY s 0==(s.size:Int))=true from beq_iff_eq.2 cM] <;> rfl)
  exact bW 5 c1<|al 0 Y H1 (by rw [iY,h1,h2,show iq (ac s 0)=_ from (by rw [iq,h3,h4]:iq (ac s 0)=(true&&false)),show (gd gY s 0==(s.size:Int))=false from beq_eq_false_iff_ne.2 D] <;> rfl)
 obtain ⟨_,_,H1,c1,af,y1,b7⟩:=(QX s (gd gY s 0) _ 0 _ y hs D D rfl rfl).code
 rcases b7 with ⟨rfl,rfl,cM⟩ |⟨rfl,rfl,cM⟩
 ·exact bW 6 c1<|al 1 aN H1 (by rw [iY,h1,h2,show iq (ac s 0)=_ from (by rw [iq,h3]:iq (ac s 0)=(false&&decide (ac s 0≤57))),show (gd gY s 0==(s.size:Int))=true from beq_iff_eq.2 cM] <;> rfl)
 exact bW 6 c1<|al 0 Y H1 (by rw [iY,h1,h2,show iq (ac s 0)=_ from (by rw [iq,h3]:iq (ac s 0)=(false&&decide (ac s 0≤57))),show (gd gY s 0==(s.size:Int))=false from beq_eq_false_iff_ne.2 D] <;> rfl)
theorem CE (s:ByteArray) (hs:(s.size:Int)<100000):∀{H:U},aa E G H→bE E 94 [.string s] H (.ret (.bool (iY s))) H []:=by
 obtain ⟨_,_,c,_,_,rfl⟩:=adl s gE hs
 exact fun y=>gx (iP rfl) (.ground rfl) c y
theorem aaf (s:ByteArray) (c:Int) {H:U}:bE E 242 [.string s,.int .u8 c] H (.ret (.int .i64 (mE s c))) H []:=by
 have hn:Extern.BytealgIndexByte.indexByte #[.string s,.int .u8 c]=pure (.int .i64 (mE s c)):=by
  have e0:Extern.BytealgIndexByte.indexByte #[.string s,.int .u8 c]=(match (List.range s.size).find? fun i=>s[i]! == c.toNat.toUInt8 with |some i=>(pure (goInt i):Sem Value) |none=>pure (goInt (-1))):=rfl
  rw [e0,mE]
  generalize List.find? _ _=o
  cases o <;> rfl
 exact bE.extern ok (fn:=Tryz.f242) (e:=Extern.BytealgIndexByte.indexByte) av av av av av rfl rfl hn
theorem aah (s:ByteArray) (c:Int) {H:U} (y:aa E G H):aI E G 206 [.string s,ab c] H [] (fun v H'=>v=(J (mE s c))):=by
 refine br Tryz.f206 y ?_
 exact ad 3 (aaf s c:bE E 242 [.string s,ab c] H (.ret (J (mE s c))) H [])<|al 1 (J (mE s c)) H rfl
theorem aag (s:ByteArray) (c:Int):∀{H:U},aa E G H→bE E 206 [.string s,ab c] H (.ret (J (mE s c))) H []:=by
 obtain ⟨_,_,c,_,_,rfl⟩:=aah s c gE
 exact fun y=>gx (iP rfl) (.ground rfl) c y
theorem aai (s:ByteArray) (c:Int) {H:U} (y:aa E G H):aI E G 162 [.string s,ab c] H [] (fun v H'=>v=(J (mE s c))):=by
 refine br Tryz.f162 y ?_
 exact ad 3 (aag s c y)<|al 1 (J (mE s c)) H rfl
theorem indexByte (s:ByteArray) (c:Int):∀{H:U},aa E G H→bE E 162 [.string s,ab c] H (.ret (J (mE s c))) H []:=by
 obtain ⟨_,_,c,_,_,rfl⟩:=aai s c gE
 exact fun y=>gx (iP rfl) (.ground rfl) c y
theorem Hj (s:ByteArray) (k:Nat):(s.extract k s.size).size=s.size-k:=by rw [yX];omega
theorem ahc (s:ByteArray) (k i:Nat) (h:k≤s.size):(s.extract k s.size).extract i (s.extract k s.size).size=s.extract (k+i) s.size:=by
 rw [Hj,ByteArray.extract_extract];congr 1;omega
theorem Oa (s:ByteArray) (k:Nat) (i:Int) (h0:0≤i) (h1:(k:Int)+i<s.size):ac (s.extract k s.size) i=ac s (k+i):=by
 unfold ac
 rw [ByteArray.data_extract,Array.getElem?_extract]
 have hs:s.data.size=s.size:=rfl
 rw [if_pos D]
 have:k+i.toNat=(k+i:Int).toNat:=D
 rw [this]
theorem gG (s:ByteArray) (i:Int):0≤ac s i:=by unfold ac;omega
theorem jK (s:ByteArray) (i:Int):ac s i<256:=by
 unfold ac
 have:=UInt8.toNat_lt (s.data[i.toNat]?.getD 0)
 omega
theorem sound:Sound E:=by
 refine ⟨ok,fun f fn h=>?_,fun g p h=>?_,fun g p h=>?_⟩
 ·have key:∀(l:List Func),l.all (fun fn=>!(fn.name== "runtime.NumGoroutine"))=true→∀(i:Nat) fn,l[i]?=some fn→(fn.name== "runtime.NumGoroutine")=false:=by
   intro l hl i fn hi
   have:=List.all_eq_true.1 hl fn (List.mem_of_getElem? hi)
   simpa using this
  refine key Tryz.prog.funcs.toList av f fn ?_
  have h:Tryz.prog.funcs[f]?=some fn:=h
  simpa using h
 ·cases h
 ·cases h
noncomputable def runs (f:Nat) (g:FuncId) (args:List Value):Option (Value×Bool):=
 match rg E f g args G with
 |some (.ret v,H',W)=>some (v,W.all fun q=>Nat.ble 23 q&&Nat.blt q H'.n)
 |_=>none
theorem ae2 {f:Nat} {g:FuncId} {args:List Value} {v:Value} (h:runs f g args=some (v,true)):∃ my,bE E g args G (.ret v) my []:=by
 unfold runs at h
 split at h
 ·rename_i v1 H1 W hr
  simp only [bx,bG] at h
  obtain ⟨rfl,hw⟩:=h
  have c:bE E g args G (.ret v1) H1 W:=Eo sound f g args G _ _ _ hr
  refine ⟨H1,c.norm fun q hq=>.inr ?_⟩
  have:=List.all_eq_true.1 hw q hq
  simp only [dI,Nat.blt_eq] at this
  have h1:=ec this.1
  rw [lq];omega
 ·cases h
theorem ae3 {f:Nat} {g:FuncId} {args:List Value} {v:Value} (h:runs f g args=some (v,true)) (ha:∀ x∈args,jx x) (hv:jx v) {H:U} (y:aa E G H):bE E g args H (.ret v) H []:=by
 obtain ⟨my,c⟩:=ae2 h
 exact gx ha hv c y
noncomputable def setCells (l:List Nat):List Value:=(List.range 256).map fun i=>.bool (l.contains i)
theorem To:∀(a b:List Value) (k:Nat) (v:Value),splice (a++b) (a.length+k) [v]=a++splice b k [v]
 |[],b,k,v=>by simp
 |x::a,b,k,v=>by
  rw [List.cons_append,cj,show a.length+1+k=(a.length+k)+1 by omega,splice,To a b k v];rfl
theorem Hg:∀(a:List Value) (k:Nat) (v:Value),k<a.length→splice a k [v]=a.set k v
 |[],k,v,h=>by simp at h
 |x::a,0,v,h=>by
  show v::splice a 0 []=v::a
  cases a <;> rfl
 |x::a,k+1,v,h=>by
  rw [splice,List.set_cons_succ,Hg a k v (by simpa using h)]
theorem nE {x:Int} (h0:0≤x) (h1:x<18446744073709551616):IntKind.u64.wrap x=x:=by
 unfold IntKind.wrap
 simp only [IntKind.bits,IntKind.signed,Bool.false_and]
 simp only [Bool.false_eq_true,if_false]
 omega
theorem jl {x:Int} (h0:0≤x) (h1:x<256):IntKind.u8.wrap x=x:=by
 unfold IntKind.wrap
 simp only [IntKind.bits,IntKind.signed,Bool.false_and]
 simp only [Bool.false_eq_true,if_false]
 omega
theorem Pg (x:Int) {H:U}:bE E 59 [.int .u64 x] H (.ret (.float .f64 x.toNat)) H []:=bE.extern ok (fn:=Tryz.f59) (e:=Extern.MathFloatBits.float64frombits) av av av av av rfl rfl rfl
end Go.Proofs.YtbehemdcaiigeaaGreatDoor
namespace Go.Am
section
variable {E:Env} {G H:U}
theorem bE.fresh {g:FuncId} {args:List Value} {my:U} {b n c:Nat} {cs:List Value} {e:TypeId} (low:H6 G) (MY:cz G) (cu:E.ej≤G.n) (ha:∀ x∈args,jx x) (hb:G.n≤b) (Jr:my.get b=some (.cells cs e false)) (hc:cs.all ground=true)
  (h:bE E g args G (.ret (sc b 0 n c)) my []) (y:aa E G H):bE E g args H (.ret (sc H.n 0 n c)) (H.new (.cells cs e false)) []:=fun wf _=>by
 obtain ⟨x1,fD,k⟩:=h MY cu
 have j6:=x1.n
 have cq:b<my.n:=fD.lt Jr
 have hx:cX [] H (H.new (.cells cs e false)):=by
  refine ⟨by rw [U.qO];omega,fun i hi _=>by rw [U.jn,if_neg D],fun i hi hl=>?_,fun i hi hl=>?_⟩
  ·rwa [U.jn,if_neg D] at hl
  ·rwa [U.jn,if_neg D] at hl
 refine ⟨hx,wf.new _,fun base φ w args' cC hf hl=>?_⟩
 let il:bA:=fun i=>if i<G.n then φ i else none
 have e0:∀ i,i<G.n→il i=φ i:=fun i hi=>if_pos hi
 have LZ:Rel E base G il w:=by
  refine ⟨cC.bs,fun i l o hi hl ho=>?_,fun i l hi hl hlv=>?_,fun i j l m hi hj hij hl hm hw hv=>?_,fun g hg=>?_⟩
  ·rw [e0 i hi] at hl
   have hb:=cC.blocks i l o (Nat.lt_of_lt_of_le hi y.n) hl (y.cell ho hi)
   have BQ:=low i hi
   rw [ho] at BQ
   exact hb.low (ψ:=φ) (φ:=il) (fun i hi=>(e0 i hi).symm) BQ
  ·rw [e0 i hi] at hl
   exact cC.lt i l (Nat.lt_of_lt_of_le hi y.n) hl (by rw [y.get i hi];exact hlv)
  ·rw [e0 i hi] at hl
   rw [e0 j hj] at hm
   exact cC.inj i j l m (Nat.lt_of_lt_of_le hi y.n) (Nat.lt_of_lt_of_le hj y.n) hij hl hm (by rw [y.get i hi];exact hw) (by rw [y.get j hj];exact hv)
  ·obtain ⟨l,h1,h2⟩:=cC.iL g hg
   exact ⟨l,by rw [e0 g D];exact h1,h2⟩
 have Jf:fW il G.n my.n:=fun i h1 h2=>if_neg D
 have nX:eb il args args':=⟨hl.1,fun i x y hx hy=>ha x (List.mem_of_getElem? hx) φ il y (hl.2 i x y hx hy)⟩
 have post:∀ e' w',nJ E base il w G my [] (.ret (sc b 0 n c)) e' w'→nJ E base φ w H (H.new (.cells cs e false)) [] (.ret (sc H.n 0 n c)) e' w':=by
  rintro e' w' ⟨e4,b6,he⟩
  have hs:=b6.step
  obtain ⟨u,rfl,hu⟩:=he
  obtain ⟨l,dR,B0⟩:∃ l,e4 b=some l∧∀ aU:bA,aU H.n=some l→be aU (sc H.n 0 n c) u:=by
   generalize hv:sc b 0 n c=v at hu
   cases hu <;> first
    |(cases hv;done)
    |(injection hv with e1 e2 aM;injection e1 with e1;injection e1 with aG bS;subst aG;subst bS;subst e2;subst aM
      refine ⟨_,by assumption,fun aU h=>?_⟩
      first
       |exact .oa _ _ _ _ _ h (by assumption)
       |exact .pO _ _ _ _ _ _ h (by assumption) (by assumption))
  have hfr:w.heap.size≤l.cD:=by
   rcases b6.fresh b l hb cq dR with h |⟨j,hj,_⟩
   ·exact h
   ·cases hj
  have YU:=b6.rel.blocks b l _ cq dR Jr
  let aU:bA:=fun i=>if i=H.n then some l else φ i
  have zp:aU H.n=some l:=if_pos rfl
  have qD:∀ i,i≠H.n→aU i=φ i:=fun i h=>if_neg h
  have sub:∀ i l,φ i=some l→aU i=some l:=fun i l' h=>by
   by_cases hi:i=H.n
   ·rw [hi,hf H.n (Nat.le_refl _) (by rw [U.qO];omega)] at h;cases h
   ·rw [qD i hi];exact h
  have EP:(H.new (.cells cs e false)).get H.n=some (.cells cs e false):=by rw [U.jn,if_pos rfl]
  have Bw:∀ i,i<H.n→(H.new (.cells cs e false)).get i=H.get i:=fun i hi=>by rw [U.jn,if_neg D]
  refine ⟨aU,⟨fun i hi=>qD i (by rw [U.qO] at hi;omega),⟨Nat.le_trans cC.bs hs.size,fun i l' o hi hl' ho=>?_,fun i l' hi hl' hlv=>?_,fun i j l' m hi hj hij hl' hm hw hv=>?_,fun g hg=>?_⟩,
   ⟨hs.os,hs.tape,hs.output,hs.size,fun B hB _=>hs.keep B hB fun j hj=>by cases hj⟩,fun i l' h1 h2 h3=>?_⟩,u,rfl,B0 aU zp⟩
  ·by_cases sJ:i=H.n
   ·subst sJ
    rw [zp] at hl';injection hl' with hl';subst hl'
    rw [EP] at ho;injection ho with ho;subst ho
    obtain ⟨d4,lo,hi',a1,a2,a3,a4,a5⟩:=YU
    refine ⟨d4,lo,hi',a1,a2,a3,fun j x hx=>?_,a5⟩
    obtain ⟨y',b1,b2⟩:=a4 j x hx
    have hg:=List.all_eq_true.1 hc x (List.mem_of_getElem? hx)
    exact ⟨y',b1,by rw [b2.ox hg];exact .rR hg⟩
   ·have hi:i<H.n:=by rw [U.qO] at hi;omega
    rw [qD i sJ] at hl'
    rw [Bw i hi] at ho
    have hb:=cC.blocks i l' o hi hl' ho
    refine mw.mono sub ?_
    by_cases hlv:live (H.get i)=true
    ·exact hb.same (hs.keep _ (cC.lt i l' hi hl' hlv) fun j hj=>by cases hj)
    ·rw [ho] at hlv
     cases o with
     |cells c e ro=>
      cases ro with
      |false=>cases c <;> exact absurd rfl hlv
      |true=>
       cases c with
       |nil=>intro j x hx;simp at hx
       |cons _ _=>exact absurd rfl hlv
     |map es ak=>exact absurd rfl hlv
     |dead=>trivial
  ·by_cases sJ:i=H.n
   ·subst sJ
    rw [zp] at hl';injection hl' with hl';subst hl'
    exact b6.rel.lt b l cq dR (by rw [Jr];cases cs <;> rfl)
   ·have hi:i<H.n:=by rw [U.qO] at hi;omega
    rw [qD i sJ] at hl'
    rw [Bw i hi] at hlv
    exact Nat.lt_of_lt_of_le (cC.lt i l' hi hl' hlv) hs.size
  ·have old:∀ i l',i<H.n→φ i=some l'→live (H.get i)=true→l'.cD<w.heap.size:=fun i l' hi hl' hv=>cC.lt i l' hi hl' hv
   by_cases sJ:i=H.n
   ·subst sJ
    rw [zp] at hl';injection hl' with hl';subst hl'
    have E6:j≠H.n:=fun e=>hij e.symm
    have hj:j<H.n:=by rw [U.qO] at hj;omega
    rw [qD j E6] at hm
    rw [Bw j hj] at hv
    have:=old j m hj hm hv
    omega
   ·have hi:i<H.n:=by rw [U.qO] at hi;omega
    rw [qD i sJ] at hl'
    rw [Bw i hi] at hw
    by_cases E6:j=H.n
    ·subst E6
     rw [zp] at hm;injection hm with hm;subst hm
     have:=old i l' hi hl' (rN hw)
     omega
    ·have hj:j<H.n:=by rw [U.qO] at hj;omega
     rw [qD j E6] at hm
     rw [Bw j hj] at hv
     exact cC.inj i j l' m hi hj hij hl' hm hw hv
  ·obtain ⟨l',h1,h2⟩:=cC.iL g hg
   exact ⟨l',sub g l' h1,h2⟩
  ·have sJ:i=H.n:=by rw [U.qO] at h2;omega
   subst sJ
   rw [zp] at h3;injection h3 with h3;subst h3
   exact .inl hfr
 rcases k base il w args' LZ Jf nX with ⟨he,hc⟩ |⟨v',w',he,oC⟩
 ·exact .inl ⟨he,hc.mono post⟩
 ·exact .inr ⟨v',w',he,post _ _ oC⟩
end
end Go.Am
set_option maxRecDepth 1000000
namespace Go.Proofs.YtbehemdcaiigeaaGreatDoor
open Go Go.Am
noncomputable def SM (f:Nat) (g:FuncId) (args:List Value):Option (Nat×Nat×Nat×List Value×Nat×Bool):=
 match rg E f g args G with
 |some (.ret (.slice (some ⟨b,0,none⟩) n c),H',W)=>match H'.get b with
  |some (.cells cs e false)=>some (b,n,c,cs,e,(W.all fun q=>Nat.ble 23 q&&Nat.blt q H'.n)&&Nat.ble 23 b&&cs.all ground)
  |_=>none
 |_=>none
theorem GG {f:Nat} {g:FuncId} {args:List Value} {b n c e:Nat} {cs:List Value} (h:SM f g args=some (b,n,c,cs,e,true)) (ha:∀ x∈args,jx x) {H:U} (y:aa E G H):bE E g args H (.ret (sc H.n 0 n c)) (H.new (.cells cs e false)) []:=by
 unfold SM at h
 split at h
 ·rename_i b1 n1 c1 H1 W hr
  split at h
  ·rename_i IM e1 hg
   simp only [bx,bG,dI] at h
   obtain ⟨rfl,rfl,rfl,rfl,rfl,⟨hw,hb⟩,hc⟩:=h
   have d4:bE E g args G (.ret (sc b1 0 n1 c1)) H1 W:=Eo sound f g args G _ _ _ hr
   have c0:bE E g args G (.ret (sc b1 0 n1 c1)) H1 []:=d4.norm fun q hq=>.inr (by
    have:=List.all_eq_true.1 hw q hq
    simp only [dI,Nat.blt_eq] at this
    have h1:=ec this.1
    rw [lq];omega)
   exact bE.fresh H7 yM yL ha (by rw [lq];exact ec hb) hg hc c0 y
  ·cases h
 ·cases h
def pz:List Value:=[.string ⟨#[115,117,109]⟩,.string ⟨#[97,118,103]⟩,.string ⟨#[109,105,110]⟩,.string ⟨#[109,97,120]⟩,.string ⟨#[99,111,117,110,116]⟩,.string ⟨#[116,111,112,107]⟩,.string ⟨#[98,111,116,116,111,109,107]⟩]
theorem Yy {H:U} (y:aa E G H):bE E 67 [.string ⟨#[115,117,109,32,97,118,103,32,109,105,110,32,109,97,120,32,99,111,117,110,116,32,116,111,112,107,32,98,111,116,116,111,109,107]⟩] H (.ret (sc H.n 0 7 15)) (H.new (O pz 9)) []:=GG (f:=2000) (b:=23) av (iP rfl) y
def t9:List Value:=[.string ⟨#[98,121]⟩,.string ⟨#[119,105,116,104,111,117,116]⟩,.string ⟨#[111,110]⟩,.string ⟨#[105,103,110,111,114,105,110,103]⟩,.string ⟨#[98,111,111,108]⟩,.string ⟨#[111,102,102,115,101,116]⟩,.string ⟨#[73,110,102]⟩,.string ⟨#[78,97,78]⟩]
theorem abv {H:U} (y:aa E G H):bE E 67 [.string ⟨#[98,121,32,119,105,116,104,111,117,116,32,111,110,32,105,103,110,111,114,105,110,103,32,98,111,111,108,32,111,102,102,115,101,116,32,73,110,102,32,78,97,78]⟩] H (.ret (sc H.n 0 8 17)) (H.new (O t9 9)) []:=GG (f:=2000) (b:=23) av (iP rfl) y
def akZ:List Value:=[.string ⟨#[61,61]⟩,.string ⟨#[33,61]⟩,.string ⟨#[61,126]⟩,.string ⟨#[33,126]⟩,.string ⟨#[62,61]⟩,.string ⟨#[60,61]⟩,.string ⟨#[61]⟩,.string ⟨#[62]⟩,.string ⟨#[60]⟩,.string ⟨#[43]⟩,.string ⟨#[45]⟩,.string ⟨#[42]⟩,.string ⟨#[47]⟩,.string ⟨#[37]⟩,.string ⟨#[64]⟩,.string ⟨#[40]⟩,.string ⟨#[41]⟩,.string ⟨#[123]⟩,.string ⟨#[125]⟩,.string ⟨#[91]⟩,.string ⟨#[93]⟩,.string ⟨#[44]⟩]
theorem L6 (v:List Value) (f:FuncId) (h:v.all k5=true:=by rfl):∀ x∈[Value.agg v.toArray,.func (.func f) #[] #[]],jx x:=fun x hx=>by
 simp only [List.mem_cons,ai,or_false] at hx
 rcases hx with rfl |rfl
 ·exact .ground (by show v.toArray.toList.all k5=true;simpa using h)
 ·exact .func0 f
theorem U8 (c:Int) {H:U} (y:aa E G H):aI E G 161 [ab c] H [] (fun v H'=>v=(.bool (nQ c))):=by
 refine br Tryz.f161 y ?_
 refine ad 2 (indexByte ⟨#[32,9,10,13]⟩ c y)<|aO 0 ((mE ⟨#[32,9,10,13]⟩ c)≥0) ?_ ?_ <;> intro h1 q1
 ·exact al 1 aN H (by rw [nQ,h1] <;> rfl)
 exact al 1 Y H (by rw [nQ,h1] <;> rfl)
theorem N1 (c:Int):∀{H:U},aa E G H→bE E 161 [ab c] H (.ret (.bool (nQ c))) H []:=by
 obtain ⟨_,_,c,_,_,rfl⟩:=U8 c gE
 exact fun y=>gx (iP rfl) (.ground rfl) c y
theorem U9 (c:Int) {H:U} (y:aa E G H):aI E G 163 [ab c] H [] (fun v H'=>v=(.bool (rf c))):=by
 refine br Tryz.f163 y ?_
 refine iD 2 c 10 ?_ ?_ <;> intro h1 q1
 ·exact al 1 aN H (by rw [rf,h1] <;> rfl)
 exact al 1 Y H (by rw [rf,h1] <;> rfl)
theorem N2 (c:Int):∀{H:U},aa E G H→bE E 163 [ab c] H (.ret (.bool (rf c))) H []:=by
 obtain ⟨_,_,c,_,_,rfl⟩:=U9 c gE
 exact fun y=>gx (iP rfl) (.ground rfl) c y
theorem aiD (c:Int) {H:U} (y:aa E G H):aI E G 208 [ab c] H [] (fun v H'=>v=(.bool (ii c))):=by
 refine br Tryz.f208 y ?_
 cases h1:(gJ c) with
 |true=>
  exact ad 2 (c5 h1 (Fx c y))<|al 3 aN H (by rw [ii,h1] <;> rfl)
 |false=>
  refine ad 2 (c5 h1 (Fx c y))<|?_
  cases h2:(iq c) with
  |true=>
   exact ad 2 (c5 h2 (Qo c y))<|al 2 aN H (by rw [ii,h1,h2] <;> rfl)
  |false=>
   exact ad 2 (c5 h2 (Qo c y))<|al 2 Y H (by rw [ii,h1,h2] <;> rfl)
theorem T4 (c:Int):∀{H:U},aa E G H→bE E 208 [ab c] H (.ret (.bool (ii c))) H []:=by
 obtain ⟨_,_,c,_,_,rfl⟩:=aiD c gE
 exact fun y=>gx (iP rfl) (.ground rfl) c y
noncomputable def Xs:Code:=cN [1,1,0,0,0] (cH Tryz.f160)
noncomputable abbrev gW s at_:=([.string s,J at_]:List Value)
theorem aio (b:Nat) (s:ByteArray) (at_:Int) (R:Int):∀(m:Nat) (aE:Int) (H:U),aa E G H→(kb:H.get b=some (O (gW s at_) 190))→(hs:(s.size:Int)<100000)→(a0:0≤at_)→(a1:at_≤s.size)→(x0:at_≤aE)→(x1:aE≤s.size)→(hR:gd nQ s aE=R)→((s.size:Int)-aE).toNat=m→
  cy E G 29 Xs [(1,bQ 161),(2,pt b 0),(5,J aE)] H [] (fun x T H'=>(x=(.exit 0)∧∃(gP:Int),T=bl [(2,pt b 0),(5,J gP)]∧((at_≤gP)∧(gP≤s.size)∧(R=gP)))):=by
 refine d8 fun m ih=>?_
 intro aE H y kb hs a0 a1 x0 x1 hR hm
 refine c9 y ?_
 refine Z 2 (ag 0 ct kb)<|aO 1 (aE<(s.size:Int)) ?_ ?_ <;> intro h1 q1
 ·refine Z 3 (ag 0 ct kb)<|bR 1 aE (s.size:Int)<|?_
  cases h2:(nQ (ac s aE)) with
  |true=>
   exact ad 0 (c5 h2 (N1 (ac s aE) y))<|ap 2 (aE+1)<|dU 1 [(1,bQ 161),(2,pt b 0),(5,J (aE+1))] H (ih _ D (aE+1) _ y kb hs a0 a1 D D (oQ D h2 hR) rfl)
  |false=>
   exact ad 0 (c5 h2 (N1 (ac s aE) y))<|dF 1 [(2,pt b 0),(5,J aE)] (.exit 0) H ⟨rfl,aE,rfl,⟨D,D,ny h2 hR⟩⟩
 exact dF 2 [(2,pt b 0),(5,J aE)] (.exit 0) H ⟨rfl,aE,rfl,⟨D,D,At D hR⟩⟩
noncomputable abbrev sY H s at_:=news H (mQ (gW s at_))
theorem aiq (s:ByteArray) (at_:Int) {H:U} (y:aa E G H) (hs:(s.size:Int)<100000) (a0:0≤at_) (a1:at_≤s.size):aI E G 160 [.agg (gW s at_).toArray,bQ 161] H [] (fun v H'=>v=(.string (jD nQ s at_))):=by
 refine br Tryz.f160 y ?_
 obtain ⟨_,_,H1,c1,af,y1,rfl,nH,rfl,cM,lE,Ax⟩:=(aio (H.n+0) s at_ (gd nQ s at_) _ at_ _ (y.news (mQ (gW s at_))) (aL (mQ (gW s at_)) H 0 _ rfl) hs a0 a1 D D rfl rfl).code
 have aP:=(y.news (mQ (gW s at_))).kept af ai (aL (mQ (gW s at_)) H 0 _ rfl)
 exact Z 3 (aR (sY H s at_) 0 1 aJ)<|bW 1 c1<|Z 1 (ag 0 ct aP)<|Z 1 (ag 1 aJ aP)<|aK [aB 0]<|oU [.ak] (by omega:0≤at_) (by omega:at_≤nH) (by omega:nH≤(s.size:Int))<|al 1 (.string (s.extract at_.toNat nH.toNat)) H1 (by rw [jD,Ax])
theorem aip (s:ByteArray) (at_:Int) (hs:(s.size:Int)<100000) (a0:0≤at_) (a1:at_≤s.size):∀{H:U},aa E G H→bE E 160 [.agg (gW s at_).toArray,bQ 161] H (.ret (.string (jD nQ s at_))) H []:=by
 obtain ⟨_,_,c,_,_,rfl⟩:=aiq s at_ gE hs a0 a1
 exact fun y=>gx (L6 _ _) (.ground rfl) c y
noncomputable def Xt:Code:=cN [1,1,0,0,0] (cH Tryz.f160)
theorem air (b:Nat) (s:ByteArray) (at_:Int) (R:Int):∀(m:Nat) (aE:Int) (H:U),aa E G H→(kb:H.get b=some (O (gW s at_) 190))→(hs:(s.size:Int)<100000)→(a0:0≤at_)→(a1:at_≤s.size)→(x0:at_≤aE)→(x1:aE≤s.size)→(hR:gd rf s aE=R)→((s.size:Int)-aE).toNat=m→
  cy E G 29 Xt [(1,bQ 163),(2,pt b 0),(5,J aE)] H [] (fun x T H'=>(x=(.exit 0)∧∃(gP:Int),T=bl [(2,pt b 0),(5,J gP)]∧((at_≤gP)∧(gP≤s.size)∧(R=gP)))):=by
 refine d8 fun m ih=>?_
 intro aE H y kb hs a0 a1 x0 x1 hR hm
 refine c9 y ?_
 refine Z 2 (ag 0 ct kb)<|aO 1 (aE<(s.size:Int)) ?_ ?_ <;> intro h1 q1
 ·refine Z 3 (ag 0 ct kb)<|bR 1 aE (s.size:Int)<|?_
  cases h2:(rf (ac s aE)) with
  |true=>
   exact ad 0 (c5 h2 (N2 (ac s aE) y))<|ap 2 (aE+1)<|dU 1 [(1,bQ 163),(2,pt b 0),(5,J (aE+1))] H (ih _ D (aE+1) _ y kb hs a0 a1 D D (oQ D h2 hR) rfl)
  |false=>
   exact ad 0 (c5 h2 (N2 (ac s aE) y))<|dF 1 [(2,pt b 0),(5,J aE)] (.exit 0) H ⟨rfl,aE,rfl,⟨D,D,ny h2 hR⟩⟩
 exact dF 2 [(2,pt b 0),(5,J aE)] (.exit 0) H ⟨rfl,aE,rfl,⟨D,D,At D hR⟩⟩
theorem ait (s:ByteArray) (at_:Int) {H:U} (y:aa E G H) (hs:(s.size:Int)<100000) (a0:0≤at_) (a1:at_≤s.size):aI E G 160 [.agg (gW s at_).toArray,bQ 163] H [] (fun v H'=>v=(.string (jD rf s at_))):=by
 refine br Tryz.f160 y ?_
 obtain ⟨_,_,H1,c1,af,y1,rfl,nH,rfl,cM,lE,Ax⟩:=(air (H.n+0) s at_ (gd rf s at_) _ at_ _ (y.news (mQ (gW s at_))) (aL (mQ (gW s at_)) H 0 _ rfl) hs a0 a1 D D rfl rfl).code
 have aP:=(y.news (mQ (gW s at_))).kept af ai (aL (mQ (gW s at_)) H 0 _ rfl)
 exact Z 3 (aR (sY H s at_) 0 1 aJ)<|bW 1 c1<|Z 1 (ag 0 ct aP)<|Z 1 (ag 1 aJ aP)<|aK [aB 0]<|oU [.ak] (by omega:0≤at_) (by omega:at_≤nH) (by omega:nH≤(s.size:Int))<|al 1 (.string (s.extract at_.toNat nH.toNat)) H1 (by rw [jD,Ax])
theorem ais (s:ByteArray) (at_:Int) (hs:(s.size:Int)<100000) (a0:0≤at_) (a1:at_≤s.size):∀{H:U},aa E G H→bE E 160 [.agg (gW s at_).toArray,bQ 163] H (.ret (.string (jD rf s at_))) H []:=by
 obtain ⟨_,_,c,_,_,rfl⟩:=ait s at_ gE hs a0 a1
 exact fun y=>gx (L6 _ _) (.ground rfl) c y
noncomputable def Xu:Code:=cN [1,1,0,0,0] (cH Tryz.f160)
theorem aiu (b:Nat) (s:ByteArray) (at_:Int) (R:Int):∀(m:Nat) (aE:Int) (H:U),aa E G H→(kb:H.get b=some (O (gW s at_) 190))→(hs:(s.size:Int)<100000)→(a0:0≤at_)→(a1:at_≤s.size)→(x0:at_≤aE)→(x1:aE≤s.size)→(hR:gd ii s aE=R)→((s.size:Int)-aE).toNat=m→
  cy E G 29 Xu [(1,bQ 208),(2,pt b 0),(5,J aE)] H [] (fun x T H'=>(x=(.exit 0)∧∃(gP:Int),T=bl [(2,pt b 0),(5,J gP)]∧((at_≤gP)∧(gP≤s.size)∧(R=gP)))):=by
 refine d8 fun m ih=>?_
 intro aE H y kb hs a0 a1 x0 x1 hR hm
 refine c9 y ?_
 refine Z 2 (ag 0 ct kb)<|aO 1 (aE<(s.size:Int)) ?_ ?_ <;> intro h1 q1
 ·refine Z 3 (ag 0 ct kb)<|bR 1 aE (s.size:Int)<|?_
  cases h2:(ii (ac s aE)) with
  |true=>
   exact ad 0 (c5 h2 (T4 (ac s aE) y))<|ap 2 (aE+1)<|dU 1 [(1,bQ 208),(2,pt b 0),(5,J (aE+1))] H (ih _ D (aE+1) _ y kb hs a0 a1 D D (oQ D h2 hR) rfl)
  |false=>
   exact ad 0 (c5 h2 (T4 (ac s aE) y))<|dF 1 [(2,pt b 0),(5,J aE)] (.exit 0) H ⟨rfl,aE,rfl,⟨D,D,ny h2 hR⟩⟩
 exact dF 2 [(2,pt b 0),(5,J aE)] (.exit 0) H ⟨rfl,aE,rfl,⟨D,D,At D hR⟩⟩
theorem aiw (s:ByteArray) (at_:Int) {H:U} (y:aa E G H) (hs:(s.size:Int)<100000) (a0:0≤at_) (a1:at_≤s.size):aI E G 160 [.agg (gW s at_).toArray,bQ 208] H [] (fun v H'=>v=(.string (jD ii s at_))):=by
 refine br Tryz.f160 y ?_
 obtain ⟨_,_,H1,c1,af,y1,rfl,nH,rfl,cM,lE,Ax⟩:=(aiu (H.n+0) s at_ (gd ii s at_) _ at_ _ (y.news (mQ (gW s at_))) (aL (mQ (gW s at_)) H 0 _ rfl) hs a0 a1 D D rfl rfl).code
 have aP:=(y.news (mQ (gW s at_))).kept af ai (aL (mQ (gW s at_)) H 0 _ rfl)
 exact Z 3 (aR (sY H s at_) 0 1 aJ)<|bW 1 c1<|Z 1 (ag 0 ct aP)<|Z 1 (ag 1 aJ aP)<|aK [aB 0]<|oU [.ak] (by omega:0≤at_) (by omega:at_≤nH) (by omega:nH≤(s.size:Int))<|al 1 (.string (s.extract at_.toNat nH.toNat)) H1 (by rw [jD,Ax])
theorem aiv (s:ByteArray) (at_:Int) (hs:(s.size:Int)<100000) (a0:0≤at_) (a1:at_≤s.size):∀{H:U},aa E G H→bE E 160 [.agg (gW s at_).toArray,bQ 208] H (.ret (.string (jD ii s at_))) H []:=by
 obtain ⟨_,_,c,_,_,rfl⟩:=aiw s at_ gE hs a0 a1
 exact fun y=>gx (L6 _ _) (.ground rfl) c y
theorem acl (s:ByteArray) (at_:Int) {H:U} (y:aa E G H) (hs:(s.size:Int)<100000) (a0:0≤at_) (a1:at_<s.size):aI E G 120 [.agg (gW s at_).toArray] H [] (fun v H'=>∃(n:Int),v=(J n)∧(0≤n∧at_+n≤s.size∧(gJ (ac s at_)=true→n=0))):=by
 refine br Tryz.f120 y ?_
 have uN:=Mr nQ s a0 D
 refine Z 2 (dy If MF rfl rfl rfl:ay E 190 (H.n+0) 0 (sY H s at_)=some (.agg (gW s at_).toArray))<|ad 0 (aip s at_ hs a0 D (y.news (mQ (gW s at_))))<|cS 3 ((jD nQ s at_).size:Int) 0 ?_ ?_ <;> intro h1 q1
 ·refine Z 2 (aR (sY H s at_) 0 0 ct)<|Z 1 (aR (sY H s at_) 0 1 aJ)<|bR 0 at_ (s.size:Int)<|cS 0 (ac s at_) 35 ?_ ?_ <;> intro h2 cw
  ·have tp:=Mr rf s a0 D
   exact Z 1 (dy If MF rfl rfl rfl:ay E 190 (H.n+0) 0 (sY H s at_)=some (.agg (gW s at_).toArray))<|ad 0 (ais s at_ hs a0 D (y.news (mQ (gW s at_))))<|al 4 (J ((jD rf s at_).size:Int)) (sY H s at_) ⟨_,rfl,D,D,fun h=>by have:=KF a0 D ⟨gG _ _,jK _ _⟩ h;omega⟩
  exact al 3 (J ((jD nQ s at_).size:Int)) (sY H s at_) ⟨_,rfl,D,D,fun h=>by have:=KF a0 D ⟨gG _ _,jK _ _⟩ h;omega⟩
 exact al 4 (J ((jD nQ s at_).size:Int)) (sY H s at_) ⟨_,rfl,D,D,fun h=>by have:=KF a0 D ⟨gG _ _,jK _ _⟩ h;omega⟩
theorem acj (s:ByteArray) (at_:Int) (hs:(s.size:Int)<100000) (a0:0≤at_) (a1:at_<s.size):∃(n:Int),(0≤n∧at_+n≤s.size∧(gJ (ac s at_)=true→n=0))∧∀{H:U},aa E G H→bE E 120 [.agg (gW s at_).toArray] H (.ret (J n)) H []:=by
 obtain ⟨_,_,c,_,_,n,rfl,hs⟩:=acl s at_ gE hs a0 a1
 exact ⟨n,hs,fun y=>gx (iP rfl) (.ground rfl) c y⟩
theorem TJ (k a n:Int) (t:ByteArray):jx (.tuple #[.agg #[.int .i64 k,.int .i64 a,.string t],.int .i64 n]):=.tuple fun x hx=>by
 simp only [List.mem_cons,ai,or_false] at hx
 rcases hx with rfl |rfl
 ·exact .ground rfl
 ·exact .ground rfl
noncomputable abbrev or:=([J 0,J 0,.string ⟨#[]⟩]:List Value)
noncomputable abbrev vX H s at_:=news H [O (gW s at_) 190,O or 154]
noncomputable abbrev Bi s at_:=([J 1,J 0,.string (jD ii s at_)]:List Value)
noncomputable abbrev K1 H s at_:=news H [O (gW s at_) 190,O (Bi s at_) 154]
theorem acu (s:ByteArray) (at_:Int) {H:U} (y:aa E G H) (hs:(s.size:Int)<100000) (a0:0≤at_) (a1:at_<s.size):aI E G 164 [.agg (gW s at_).toArray] H [] (fun v H'=>∃(k:Int) (a:Int) (t:ByteArray) (n:Int),v=(.tuple #[.agg #[J k,J a,.string t],J n])∧(0≤n∧at_+n≤s.size∧Nw s at_ k t n)):=by
 refine br Tryz.f164 y ?_
 refine Z 4 (aR (vX H s at_) 0 0 ct)<|Z 1 (aR (vX H s at_) 0 1 aJ)<|bR 0 at_ (s.size:Int)<|?_
 cases h1:(gJ (ac s at_)) with
 |true=>
  have uN:=Mr ii s a0 D
  exact ad 0 (c5 h1 (Fx (ac s at_) (y.news [O (gW s at_) 190,O or 154])))<|Z 1 (dy If MF rfl rfl rfl:ay E 190 (H.n+0) 0 (vX H s at_)=some (.agg (gW s at_).toArray))<|ad 0 (aiv s at_ hs a0 D (y.news [O (gW s at_) 190,O or 154]))<|aC 5 (bT Hp rfl rfl rfl rfl:bp E 154 (H.n+1) 0 (.agg (Bi s at_).toArray) (vX H s at_)=some (K1 H s at_))<|aK [aB 0]<|eM [] ((dy Nz Hp rfl rfl rfl):ay E 154 (H.n+1) 0 (K1 H s at_)=some (.agg (Bi s at_).toArray)) (r5 (J ((jD ii s at_).size:Int)))<|gM 0 [.agg (Bi s at_).toArray,J ((jD ii s at_).size:Int)] (.tuple #[.agg (Bi s at_).toArray,J ((jD ii s at_).size:Int)]) (K1 H s at_) [H.n+1] aQ aZ ⟨_,_,_,_,rfl,D,D,.inl ⟨h1,rfl,rfl,rfl,aiF a0 a1 h1⟩⟩
 |false=>
  exact ad 0 (c5 h1 (Fx (ac s at_) (y.news [O (gW s at_) 190,O or 154])))<|aC 2 (bT Hp rfl rfl rfl rfl:bp E 154 (H.n+1) 0 (.agg (List.toArray or)) (vX H s at_)=some (vX H s at_))<|aK [aB 0]<|eM [] ((dy Nz Hp rfl rfl rfl):ay E 154 (H.n+1) 0 (vX H s at_)=some (.agg (List.toArray or))) (r5 (J 0))<|gM 0 [.agg (List.toArray or),J 0] (.tuple #[.agg (List.toArray or),J 0]) (vX H s at_) [H.n+1] aQ aZ ⟨0,0,⟨#[]⟩,0,rfl,D,D,.inr ⟨h1,.inl rfl⟩⟩
theorem acr (s:ByteArray) (at_:Int) (hs:(s.size:Int)<100000) (a0:0≤at_) (a1:at_<s.size):∃(k:Int) (a:Int) (t:ByteArray) (n:Int),(0≤n∧at_+n≤s.size∧Nw s at_ k t n)∧∀{H:U},aa E G H→bE E 164 [.agg (gW s at_).toArray] H (.ret (.tuple #[.agg #[J k,J a,.string t],J n])) H []:=by
 obtain ⟨_,_,c,_,_,k,a,t,n,rfl,hs⟩:=acu s at_ gE hs a0 a1
 exact ⟨k,a,t,n,hs,fun y=>gx (iP rfl) (TJ _ _ _ _) c y⟩
def dB (s:ByteArray) (i lo hi:Int):Prop:=i<s.size∧lo≤ac s i∧ac s i≤hi
instance {s:ByteArray} {i lo hi:Int}:Decidable (dB s i lo hi):=by unfold dB;infer_instance
def fQ (s:ByteArray) (i:Int):Int:=
 if ac s i<128 then 1 else if 194≤ac s i∧ac s i<224 then (if dB s (i+1) 128 191 then 2 else 0) else
 if 224≤ac s i∧ac s i<240 then (if dB s (i+1) (if ac s i=224 then 160 else 128) (if ac s i=237 then 159 else 191)∧dB s (i+2) 128 191 then 3 else 0) else
 if 240≤ac s i∧ac s i<245 then (if dB s (i+1) (if ac s i=240 then 144 else 128) (if ac s i=244 then 143 else 191)∧dB s (i+2) 128 191∧dB s (i+3) 128 191 then 4 else 0) else 0
theorem Ma (s:ByteArray) (i:Int):0≤fQ s i∧(i<s.size→i+fQ s i≤s.size):=by
 unfold fQ dB
 repeat' split
 all_goals omega
def fc (s:ByteArray) (i:Int):Bool:=if h:i<s.size then (if h2:0<fQ s i then fc s (i+fQ s i) else false) else true
termination_by ((s.size:Int)-i).toNat
decreasing_by omega
theorem J0 {s:ByteArray} {k i lo hi:Int} (h0:0≤k) (h1:k≤s.size) (hi0:0≤i):dB (s.extract k.toNat s.size) i lo hi↔dB s (k+i) lo hi:=by
 unfold dB
 have hs:=Hj s k.toNat
 by_cases h:k+i<s.size
 ·rw [Oa s k.toNat i hi0 D,show (k.toNat:Int)+i=k+i by omega]
  omega
 ·omega
theorem agf {s:ByteArray} {k i:Int} (h0:0≤k) (h1:k≤s.size) (hi:0≤i) (h:k+i<s.size):fQ (s.extract k.toNat s.size) i=fQ s (k+i):=by
 unfold fQ
 simp only [J0 h0 h1 (show 0≤i+1 by omega),J0 h0 h1 (show 0≤i+2 by omega),J0 h0 h1 (show 0≤i+3 by omega),Oa s k.toNat i hi D,show (k.toNat:Int)+i=k+i by omega,Int.add_assoc]
theorem MR {s:ByteArray} {k i:Int} (h0:0≤k) (h1:k≤s.size) (hi:0≤i):fc (s.extract k.toNat s.size) i=fc s (k+i):=by
 have hs:=Hj s k.toNat
 rw [fc.eq_def (s.extract k.toNat s.size) i,fc.eq_def s (k+i)]
 by_cases h:k+i<s.size
 ·rw [dif_pos D,dif_pos h,agf h0 h1 hi h]
  split
  ·rename_i h2
   rw [MR h0 h1 (show 0≤i+fQ s (k+i) by omega),Int.add_assoc]
  ·rfl
 ·rw [dif_neg D,dif_neg h]
termination_by ((s.size:Int)-(k+i)).toNat
decreasing_by omega
theorem wI {x:ByteArray} {n:Int} {R:Bool} (hR:fc x 0=R) (h:0<(x.size:Int)) (hr:fQ x 0=n) (hn:0<n):fc (x.extract n.toNat x.size) 0=R:=by
 have:=Ma x 0
 rw [MR D D D,← hR,fc.eq_def x 0,dif_pos D,dif_pos D,hr]
 simp
theorem wH {x:ByteArray} {R:Bool} (hR:fc x 0=R) (h:0<(x.size:Int)) (hr:fQ x 0=0):R=false:=by
 rw [← hR,fc.eq_def x 0,dif_pos D,dif_neg D]
theorem aib {x:ByteArray} {R:Bool} (hR:fc x 0=R) (h:¬ 0<(x.size:Int)):R=true:=by
 rw [← hR,fc.eq_def x 0,dif_neg D]
theorem L9 {x:ByteArray} {i:Int} (h:ac x i<128):fQ x i=1:=by rw [fQ,if_pos h]
def Qq (x:ByteArray):Prop:=∀ j:Nat,j<8→ac x j<128
theorem yl {x:ByteArray} {R:Bool} (hR:fc x 0=R) (h:8≤(x.size:Int)) (hl:Qq x):fc (x.extract 8 x.size) 0=R:=by
 have e:fc (x.extract (8:Int).toNat x.size) 0=fc x (8+0):=MR D D D
 have st:∀ j:Nat,j<8→fc x (j:Int)=fc x ((j:Int)+1):=fun j hj=>by
  rw [fc.eq_def x (j:Int),dif_pos D,L9 (hl j hj),dif_pos D]
 have SV:=st 0 D;have s1:=st 1 D;have s2:=st 2 D;have Mf:=st 3 D
 have Dg:=st 4 D;have Mg:=st 5 D;have ago:=st 6 D;have agp:=st 7 D
 refine e.trans ?_
 rw [← hR]
 exact (SV.trans (s1.trans (s2.trans (Mf.trans (Dg.trans (Mg.trans (ago.trans agp))))))).symm
theorem w7 (x:Int):BitVec.ofInt 64 (IntKind.u64.wrap x)=BitVec.ofInt 64 x:=by
 apply BitVec.eq_of_toInt_eq
 rw [BitVec.toInt_ofInt,BitVec.toInt_ofInt]
 unfold IntKind.wrap
 simp only [IntKind.bits,IntKind.signed,Bool.false_and,Bool.false_eq_true,if_false]
 exact Int.emod_bmod ..
theorem Bf (v:BitVec 64):BitVec.ofInt 64 (v.toNat:Int)=v:=by simp
def mW (k:Nat) (x:Int):Prop:=(BitVec.ofInt 64 x).getLsbD k=true
theorem je {k:Nat} {a b:Int} (h:mW k a):mW k (IntKind.u64.wrap ((BitVec.ofInt 64 a |||BitVec.ofInt 64 b).toNat:Int)):=by
 unfold mW at *;rw [w7,Bf,BitVec.getLsbD_or,h];rfl
theorem w6 {k:Nat} {a b:Int} (h:mW k b):mW k (IntKind.u64.wrap ((BitVec.ofInt 64 a |||BitVec.ofInt 64 b).toNat:Int)):=by
 unfold mW at *;rw [w7,Bf,BitVec.getLsbD_or,h,Bool.or_true]
theorem U6 {k:Nat} {a:Int} (h:mW k a):mW k (IntKind.u64.wrap a):=by unfold mW at *;rw [w7,h]
theorem U5 {b:Int} (j:Nat) (hj:j<8) (h0:128≤b) (h1:b<256):mW (8*j+7) (b*2 ^ (8*j)):=by
 obtain ⟨n,rfl⟩:=Int.eq_ofNat_of_zero_le (show 0≤b by omega)
 unfold mW
 rw [show ((n:Int)*2 ^ (8*j))=((n*2 ^ (8*j):Nat):Int) by push_cast;rfl,BitVec.ofInt_natCast,BitVec.getLsbD_ofNat,Nat.mul_comm n,Nat.testBit_two_pow_mul]
 rw [show decide (8*j+7<64)=true from decide_eq_true D,show decide (8*j+7≥8*j)=true from decide_eq_true D,show 8*j+7-8*j=7 by omega]
 simp only [Bool.true_and,Nat.testBit,Nat.shiftRight_eq_div_pow]
 have:n / 2 ^ 7=1:=D
 rw [this];rfl
def yN (w:Int) (x:ByteArray):Prop:=∀ j:Nat,j<8→128≤ac x j→mW (8*j+7) w
theorem BK {a b:Int} {x:ByteArray} (h:yN a x):yN (IntKind.u64.wrap ((BitVec.ofInt 64 a |||BitVec.ofInt 64 b).toNat:Int)) x:=fun j hj hb=>by
 have:=h j hj hb
 unfold mW at *;rw [w7,Bf,BitVec.getLsbD_or,this];rfl
theorem BL {a b:Int} {x:ByteArray} (h:yN b x):yN (IntKind.u64.wrap ((BitVec.ofInt 64 a |||BitVec.ofInt 64 b).toNat:Int)) x:=fun j hj hb=>by
 have:=h j hj hb
 unfold mW at *;rw [w7,Bf,BitVec.getLsbD_or,this,Bool.or_true]
theorem xr {w:Int} {x:ByteArray} (h:yN w x) (e:(IntKind.u64.wrap ((BitVec.ofInt 64 w &&& BitVec.ofInt 64 9259542123273814144).toNat:Int)==0)=true):Qq x:=fun j hj=>by
 rw [Int.lt_iff_add_one_le]
 refine Classical.byContradiction fun hn=>?_
 have hb:=h j hj D
 have e1:=congrArg (BitVec.ofInt 64) (pu e)
 rw [w7,Bf] at e1
 have e2:=congrArg (fun v=>v.getLsbD (8*j+7)) e1
 simp only [BitVec.getLsbD_and] at e2
 unfold mW at hb
 rw [hb,Bool.true_and] at e2
 have:j=0∨j=1∨j=2∨j=3∨j=4∨j=5∨j=6∨j=7:=D
 rcases this with rfl |rfl |rfl |rfl |rfl |rfl |rfl |rfl <;> exact absurd e2 (by decide)
abbrev cT (s:ByteArray) (k:Int):ByteArray:=s.extract k.toNat s.size
theorem mh (s:ByteArray) (k:Int):(cT s k).size=s.size-k.toNat:=Hj s k.toNat
theorem Dz {x:ByteArray} {R:Bool} (hR:fc x 0=R) (h:0<(x.size:Int)) (hl:ac x 0<128):fc (cT x 1) 0=R:=wI hR h (L9 hl) D
theorem LR {x:ByteArray} {i:Int} (h:194≤ac x i∧ac x i<224):fQ x i=if dB x (i+1) 128 191 then 2 else 0:=by rw [fQ,if_neg D,if_pos h]
theorem GH {x:ByteArray} {i:Int} (h:ac x i=224):fQ x i=if dB x (i+1) 160 191∧dB x (i+2) 128 191 then 3 else 0:=by rw [fQ,if_neg D,if_neg D,if_pos D,if_pos h,if_neg (show ¬ ac x i=237 by omega)]
theorem GI {x:ByteArray} {i:Int} (h:225≤ac x i∧ac x i<237∨ac x i=238∨ac x i=239):fQ x i=if dB x (i+1) 128 191∧dB x (i+2) 128 191 then 3 else 0:=by rw [fQ,if_neg D,if_neg D,if_pos D,if_neg (show ¬ ac x i=224 by omega),if_neg (show ¬ ac x i=237 by omega)]
theorem GJ {x:ByteArray} {i:Int} (h:ac x i=237):fQ x i=if dB x (i+1) 128 159∧dB x (i+2) 128 191 then 3 else 0:=by rw [fQ,if_neg D,if_neg D,if_pos D,if_neg (show ¬ ac x i=224 by omega),if_pos h]
theorem C8 {x:ByteArray} {i:Int} (h:ac x i=240):fQ x i=if dB x (i+1) 144 191∧dB x (i+2) 128 191∧dB x (i+3) 128 191 then 4 else 0:=by rw [fQ,if_neg D,if_neg D,if_neg D,if_pos D,if_pos h,if_neg (show ¬ ac x i=244 by omega)]
theorem C9 {x:ByteArray} {i:Int} (h:241≤ac x i∧ac x i≤243):fQ x i=if dB x (i+1) 128 191∧dB x (i+2) 128 191∧dB x (i+3) 128 191 then 4 else 0:=by rw [fQ,if_neg D,if_neg D,if_neg D,if_pos D,if_neg (show ¬ ac x i=240 by omega),if_neg (show ¬ ac x i=244 by omega)]
theorem Da {x:ByteArray} {i:Int} (h:ac x i=244):fQ x i=if dB x (i+1) 128 143∧dB x (i+2) 128 191∧dB x (i+3) 128 191 then 4 else 0:=by rw [fQ,if_neg D,if_neg D,if_neg D,if_pos D,if_neg (show ¬ ac x i=240 by omega),if_pos h]
theorem LS {x:ByteArray} {i:Int} (h:128≤ac x i) (h2:ac x i<194∨245≤ac x i):fQ x i=0:=by rw [fQ,if_neg D,if_neg D,if_neg D,if_neg D]
theorem R7 {x:ByteArray} (h:194≤ac x 0∧ac x 0<224):fQ x 0=if dB x 1 128 191 then 2 else 0:=LR h
theorem R8 {x:ByteArray} (h:ac x 0=224):fQ x 0=if dB x 1 160 191∧dB x 2 128 191 then 3 else 0:=GH h
theorem R9 {x:ByteArray} (h:225≤ac x 0∧ac x 0<237∨ac x 0=238∨ac x 0=239):fQ x 0=if dB x 1 128 191∧dB x 2 128 191 then 3 else 0:=GI h
theorem Sa {x:ByteArray} (h:ac x 0=237):fQ x 0=if dB x 1 128 159∧dB x 2 128 191 then 3 else 0:=GJ h
theorem Sb {x:ByteArray} (h:ac x 0=240):fQ x 0=if dB x 1 144 191∧dB x 2 128 191∧dB x 3 128 191 then 4 else 0:=C8 h
theorem Sc {x:ByteArray} (h:241≤ac x 0∧ac x 0≤243):fQ x 0=if dB x 1 128 191∧dB x 2 128 191∧dB x 3 128 191 then 4 else 0:=C9 h
theorem Sd {x:ByteArray} (h:ac x 0=244):fQ x 0=if dB x 1 128 143∧dB x 2 128 191∧dB x 3 128 191 then 4 else 0:=Da h
theorem ae4 {x:ByteArray} (h:128≤ac x 0) (h2:ac x 0<194∨245≤ac x 0):fQ x 0=0:=LS h h2
theorem vk {b:Int} (j:Nat) (hj:j<8) (h0:128≤b) (h1:b<256):mW (8*j+7) (IntKind.u64.wrap (IntKind.u64.wrap b*2 ^ (8*j))):=by
 rw [nE (x:=b) D D];exact U6 (U5 j hj h0 h1)
abbrev rU (a b:Int):Int:=IntKind.u64.wrap ((BitVec.ofInt 64 a |||BitVec.ofInt 64 b).toNat:Int)
def mz (s:ByteArray):Int:=rU (rU (rU (rU (rU (rU (rU (IntKind.u64.wrap (ac s 0)) (IntKind.u64.wrap (IntKind.u64.wrap (ac s 1)*2 ^ 8))) (IntKind.u64.wrap (IntKind.u64.wrap (ac s 2)*2 ^ 16))) (IntKind.u64.wrap (IntKind.u64.wrap (ac s 3)*2 ^ 24)))
 (IntKind.u64.wrap (IntKind.u64.wrap (ac s 4)*2 ^ 32))) (IntKind.u64.wrap (IntKind.u64.wrap (ac s 5)*2 ^ 40))) (IntKind.u64.wrap (IntKind.u64.wrap (ac s 6)*2 ^ 48))) (IntKind.u64.wrap (IntKind.u64.wrap (ac s 7)*2 ^ 56))
theorem xq (s:ByteArray):yN (mz s) s:=fun j hj hb=>by
 have h2:=jK s j
 unfold mz
 have:j=0∨j=1∨j=2∨j=3∨j=4∨j=5∨j=6∨j=7:=D
 rcases this with rfl |rfl |rfl |rfl |rfl |rfl |rfl |rfl
 ·have:=vk 0 D hb h2
  rw [show (2:Int) ^ (8*0)=1 by decide,Int.mul_one] at this
  unfold mW at this
  rw [w7] at this
  exact je (je (je (je (je (je (je this))))))
 ·exact je (je (je (je (je (je (w6 (vk 1 D hb h2)))))))
 ·exact je (je (je (je (je (w6 (vk 2 D hb h2))))))
 ·exact je (je (je (je (w6 (vk 3 D hb h2)))))
 ·exact je (je (je (w6 (vk 4 D hb h2))))
 ·exact je (je (w6 (vk 5 D hb h2)))
 ·exact je (w6 (vk 6 D hb h2))
 ·exact w6 (vk 7 D hb h2)
theorem Mn {x:ByteArray} {R:Bool} (hR:fc x 0=R) (h:8≤(x.size:Int)) (e:(IntKind.u64.wrap ((BitVec.ofInt 64 (mz x) &&& BitVec.ofInt 64 9259542123273814144).toNat:Int)==0)=true):fc (cT x 8) 0=R:=yl hR h (xr (xq x) e)
theorem Hk (x:ByteArray) (a b:Int) (h0:0≤a) (h1:a≤x.size) (hb:0≤b):cT (cT x a) b=cT x (a+b):=by
 unfold cT;rw [ahc x a.toNat b.toNat D,show a.toNat+b.toNat=(a+b).toNat by omega]
theorem agP {x:ByteArray} {R:Bool} (hR:fc x 0=R) (h:16≤(x.size:Int)) (e:(IntKind.u64.wrap ((BitVec.ofInt 64 (rU (mz x) (mz (cT x 8))) &&& BitVec.ofInt 64 9259542123273814144).toNat:Int)==0)=true):fc (cT x 16) 0=R:=by
 have h1:=yl hR D (xr (BK (xq x)) e)
 have h2:=yl (x:=cT x 8) h1 (by have:=mh x 8;omega) (xr (BL (xq _)) e)
 have h2:fc (cT (cT x 8) 8) 0=R:=h2
 rw [Hk x 8 8 D D D] at h2
 exact h2
theorem agQ {x:ByteArray} {R:Bool} (hR:fc x 0=R) (h:32≤(x.size:Int)) (e:(IntKind.u64.wrap ((BitVec.ofInt 64 (rU (rU (mz x) (mz (cT x 8))) (rU (mz (cT x 16)) (mz (cT x 24)))) &&& BitVec.ofInt 64 9259542123273814144).toNat:Int)==0)=true):fc (cT x 32) 0=R:=by
 have h1:=yl hR D (xr (BK (BK (xq x))) e)
 have h2:=yl (x:=cT x 8) h1 (by have:=mh x 8;omega) (xr (BK (BL (xq _))) e)
 have h2:fc (cT (cT x 8) 8) 0=R:=h2
 rw [Hk x 8 8 D D D] at h2
 have h3:=yl h2 (by have:=mh x 16;show 8≤(((cT x 16).size:Nat):Int);omega) (xr (BL (BK (xq _))) e)
 have h3:fc (cT (cT x 16) 8) 0=R:=h3
 rw [Hk x 16 8 D D D] at h3
 have h4:=yl h3 (by have:=mh x 24;show 8≤(((cT x 24).size:Nat):Int);omega) (xr (BL (BL (xq _))) e)
 have h4:fc (cT (cT x 24) 8) 0=R:=h4
 rw [Hk x 24 8 D D D] at h4
 exact h4
def lG (s:ByteArray):Bool:=decide ((s.size:Int)≤200)&&fc s 0
theorem KS:iY ⟨#[97]⟩=true:=by unfold iY;rw [gd,gd,dif_pos (by decide),dif_neg (by decide),ByteArray.toList_eq,ByteArray.toList_eq];decide
def oJ (a s:ByteArray):Bool:=iY a&&lG s
def x7 (a s:ByteArray):Bool:=oJ a s&&!pr s
theorem ah8 {s:ByteArray} {i:Int} {R:Bool} (hR:fc s i=R) (h:i<s.size) (hn:fQ s i≠0):fc s (i+fQ s i)=R:=by
 have:=Ma s i
 rw [fc.eq_def s i,dif_pos h,dif_pos D] at hR;exact hR
theorem ah9 {s:ByteArray} {i:Int} {R:Bool} (hR:fc s i=R) (h:i<s.size) (hn:fQ s i=0):R=false:=by
 rw [fc.eq_def s i,dif_pos h,dif_neg D] at hR;exact hR.symm
theorem aia {s:ByteArray} {i:Int} {R:Bool} (hR:fc s i=R) (h:¬ i<s.size):R=true:=by
 rw [fc.eq_def s i,dif_neg h] at hR;exact hR.symm
theorem aiE (s:ByteArray) {H:U} (y:aa E G H) (hs:8≤(s.size:Int)):aI E G 263 [.string s] H [] (fun v H'=>v=(ax (mz s))):=by
 refine br Tryz.f263 y ?_
 exact aK [aB 0]<|bR 1 (0:Int) (s.size:Int)<|bR 2 (1:Int) (s.size:Int)<|bR 4 (2:Int) (s.size:Int)<|bR 4 (3:Int) (s.size:Int)<|bR 4 (4:Int) (s.size:Int)<|bR 4 (5:Int) (s.size:Int)<|bR 4 (6:Int) (s.size:Int)<|bR 4 (7:Int) (s.size:Int)<|al 4 (ax (IntKind.u64.wrap ((BitVec.ofInt 64 (IntKind.u64.wrap ((BitVec.ofInt 64 (IntKind.u64.wrap ((BitVec.ofInt 64 (IntKind.u64.wrap ((BitVec.ofInt 64 (IntKind.u64.wrap ((BitVec.ofInt 64 (IntKind.u64.wrap ((BitVec.ofInt 64 (IntKind.u64.wrap ((BitVec.ofInt 64 (IntKind.u64.wrap (ac s 0)) |||BitVec.ofInt 64 (IntKind.u64.wrap ((IntKind.u64.wrap (ac s 1))*2 ^ 8))).toNat:Int)) |||BitVec.ofInt 64 (IntKind.u64.wrap ((IntKind.u64.wrap (ac s 2))*2 ^ 16))).toNat:Int)) |||BitVec.ofInt 64 (IntKind.u64.wrap ((IntKind.u64.wrap (ac s 3))*2 ^ 24))).toNat:Int)) |||BitVec.ofInt 64 (IntKind.u64.wrap ((IntKind.u64.wrap (ac s 4))*2 ^ 32))).toNat:Int)) |||BitVec.ofInt 64 (IntKind.u64.wrap ((IntKind.u64.wrap (ac s 5))*2 ^ 40))).toNat:Int)) |||BitVec.ofInt 64 (IntKind.u64.wrap ((IntKind.u64.wrap (ac s 6))*2 ^ 48))).toNat:Int)) |||BitVec.ofInt 64 (IntKind.u64.wrap ((IntKind.u64.wrap (ac s 7))*2 ^ 56))).toNat:Int))) H rfl
theorem qq (s:ByteArray) (hs:8≤(s.size:Int)):∀{H:U},aa E G H→bE E 263 [.string s] H (.ret (ax (mz s))) H []:=by
 obtain ⟨_,_,c,_,_,rfl⟩:=aiE s gE hs
 exact fun y=>gx (iP rfl) (.ground rfl) c y
noncomputable def Wn:Code:=cN [1,0,0,0,1,0,1,0,1,0,1,0,1,0,1,1,0,1,0,0] (cH Tryz.f240)
theorem abU (n0:Nat) (R:Bool):∀(m:Nat) (x0:ByteArray) (H:U),aa E G H→(h0:x0.size≤n0)→(hR:fc x0 0=R)→x0.size=m→
  cy E G 169 Wn [(0,.string x0)] H [] (fun x T H'=>(x=(.exit 2)∧∃(yz:ByteArray),T=bl [(0,.string yz)]∧((yz.size≤n0)∧(fc yz 0=R)))):=by
 refine d8 fun m ih=>?_
 intro x0 H y h0 hR hm
 refine c9 y ?_
 rcases ep (decide ((x0.size:Int)>32)) with h1 |h1
 ·have q1:=gb h1
  have wC:=mh x0 8
  have ahp:=mh x0 16
  have ahr:=mh x0 24
  rcases ep ((IntKind.u64.wrap ((BitVec.ofInt 64 (IntKind.u64.wrap ((BitVec.ofInt 64 (IntKind.u64.wrap ((BitVec.ofInt 64 (mz x0) |||BitVec.ofInt 64 (mz (cT x0 8))).toNat:Int)) |||BitVec.ofInt 64 (IntKind.u64.wrap ((BitVec.ofInt 64 (mz (cT x0 16)) |||BitVec.ofInt 64 (mz (cT x0 24))).toNat:Int))).toNat:Int)) &&& BitVec.ofInt 64 9259542123273814144).toNat:Int))==0) with h2 |h2
  ·have ahs:=mh x0 32
   exact aH 2 h1<|ad 2 (qq x0 D y)<|aK [aB 0]<|eM [.ak] (by omega:0≤(8:Int)) (by omega:(8:Int)≤(x0.size:Int))<|ad 0 (qq (cT x0 8) D y)<|aK [aB 1]<|eM [.ak] (by omega:0≤(16:Int)) (by omega:(16:Int)≤(x0.size:Int))<|ad 0 (qq (cT x0 16) D y)<|aK [aB 0]<|eM [.ak] (by omega:0≤(24:Int)) (by omega:(24:Int)≤(x0.size:Int))<|ad 0 (qq (cT x0 24) D y)<|aH 3 h2<|aK [aB 1]<|eM [.ak] (by omega:0≤(32:Int)) (by omega:(32:Int)≤(x0.size:Int))<|dU 1 [(0,.string (cT x0 32))] H (ih _ D (cT x0 32) _ y D (agQ hR D h2) rfl)
  have cw:=sX h2
  exact aH 2 h1<|ad 2 (qq x0 D y)<|aK [aB 0]<|eM [.ak] (by omega:0≤(8:Int)) (by omega:(8:Int)≤(x0.size:Int))<|ad 0 (qq (cT x0 8) D y)<|aK [aB 1]<|eM [.ak] (by omega:0≤(16:Int)) (by omega:(16:Int)≤(x0.size:Int))<|ad 0 (qq (cT x0 16) D y)<|aK [aB 0]<|eM [.ak] (by omega:0≤(24:Int)) (by omega:(24:Int)≤(x0.size:Int))<|ad 0 (qq (cT x0 24) D y)<|aH 3 h2<|dF 1 [(0,.string x0)] (.exit 2) H ⟨rfl,x0,rfl,⟨h0,hR⟩⟩
 exact aH 2 h1<|dF 2 [(0,.string x0)] (.exit 2) H ⟨rfl,x0,rfl,⟨h0,hR⟩⟩
noncomputable def WH:Code:=cN [1,0,0,0,1,0,1,0] (cH Tryz.f240)
theorem ad1 (s:ByteArray) (c:Int) (R:Bool)  {H:U} (y:aa E G H) (hs:0<(s.size:Int)) (hc:ac s 0=c) (hR:fc s 0=R) :
  jF E G 169 WH [(0,.string s),(3,ab c)] H [] (fun x T H'=>(x=.normal∧T=bl [(0,.string s),(3,ab c)]∧(128≤c))∨(x=(.exit 1)∧∃(yz:ByteArray),T=bl [(0,.string yz)]∧((yz.size<s.size)∧(fc yz 0=R)))):=by
 refine nA y ?_
 refine aO 1 (c<128) ?_ ?_ <;> intro h1 q1
 ·have wC:=mh s 1
  refine aK [aB 0]<|eM [.ak] (by omega:0≤(1:Int)) (by omega:(1:Int)≤(s.size:Int))<|aO 3 (((cT s 1).size:Int)>8) ?_ ?_ <;> intro h2 cw
  ·refine ad 2 (qq (cT s 1) D y)<|cS 1 (IntKind.u64.wrap ((BitVec.ofInt 64 (mz (cT s 1)) &&& BitVec.ofInt 64 9259542123273814144).toNat:Int)) 0 ?_ ?_ <;> intro h3 dv
   ·have ahp:=mh (cT s 1) 8
    rcases ep (decide (((cT (cT s 1) 8).size:Int)>16)) with h4 |h4
    ·have dT:=gb h4
     have ahr:=mh (cT (cT s 1) 8) 8
     rcases ep ((IntKind.u64.wrap ((BitVec.ofInt 64 (IntKind.u64.wrap ((BitVec.ofInt 64 (mz (cT (cT s 1) 8)) |||BitVec.ofInt 64 (mz (cT (cT (cT s 1) 8) 8))).toNat:Int)) &&& BitVec.ofInt 64 9259542123273814144).toNat:Int))==0) with h5 |h5
     ·have ahs:=mh (cT (cT s 1) 8) 16
      obtain ⟨_,_,H1,c1,af,y1,rfl,DU,rfl,cM,lE⟩:=(abU (cT (cT (cT s 1) 8) 16).size R _ (cT (cT (cT s 1) 8) 16) _ y (Nat.le_refl _) (agP (Mn (Dz hR hs D) D h3) D h5) rfl).code
      exact aK [aB 1]<|eM [.ak] (by omega:0≤(8:Int)) (by omega:(8:Int)≤((cT s 1).size:Int))<|aK [aB 0]<|aH 2 h4<|ad 2 (qq (cT (cT s 1) 8) D y)<|aK [aB 0]<|eM [.ak] (by omega:0≤(8:Int)) (by omega:(8:Int)≤((cT (cT s 1) 8).size:Int))<|ad 0 (qq (cT (cT (cT s 1) 8) 8) D y)<|aH 2 h5<|aK [aB 1]<|eM [.ak] (by omega:0≤(16:Int)) (by omega:(16:Int)≤((cT (cT s 1) 8).size:Int))<|bW 1 c1<|fu 0 [(0,.string DU)] (.exit 1) H1 (.inr ⟨rfl,DU,rfl,⟨D,lE⟩⟩)
     have ff:=sX h5
     exact aK [aB 1]<|eM [.ak] (by omega:0≤(8:Int)) (by omega:(8:Int)≤((cT s 1).size:Int))<|aK [aB 0]<|aH 2 h4<|ad 2 (qq (cT (cT s 1) 8) D y)<|aK [aB 0]<|eM [.ak] (by omega:0≤(8:Int)) (by omega:(8:Int)≤((cT (cT s 1) 8).size:Int))<|ad 0 (qq (cT (cT (cT s 1) 8) 8) D y)<|aH 2 h5<|fu 1 [(0,.string (cT (cT s 1) 8))] (.exit 1) H (.inr ⟨rfl,cT (cT s 1) 8,rfl,⟨D,Mn (Dz hR hs D) D h3⟩⟩)
    exact aK [aB 1]<|eM [.ak] (by omega:0≤(8:Int)) (by omega:(8:Int)≤((cT s 1).size:Int))<|aK [aB 0]<|aH 2 h4<|fu 2 [(0,.string (cT (cT s 1) 8))] (.exit 1) H (.inr ⟨rfl,cT (cT s 1) 8,rfl,⟨D,Mn (Dz hR hs D) D h3⟩⟩)
   exact fu 1 [(0,.string (cT s 1))] (.exit 1) H (.inr ⟨rfl,cT s 1,rfl,⟨D,Dz hR hs D⟩⟩)
  exact fu 2 [(0,.string (cT s 1))] (.exit 1) H (.inr ⟨rfl,cT s 1,rfl,⟨D,Dz hR hs D⟩⟩)
 exact fu 0 [(0,.string s),(3,ab c)] .normal H (.inl ⟨rfl,rfl,D⟩)
noncomputable def WI:Code:=cN [1,0,0,0,1,0,1,1,1,1,1,1,0,1,0,0,0] (cH Tryz.f240)
theorem ad2 (s:ByteArray) (b:Nat) (lo:Int) (hi:Int)  {H:U} (y:aa E G H) (kb:H.get b=some (O [ab lo,ab hi] 352)) (hs:0<(s.size:Int)) :
  jF E G 169 WI [(0,.string s),(6,pt b 0)] H [] (fun x T H'=>(x=.normal∧T=bl [(0,.string s),(94,aN)]∧((s.size:Int)<2∨ac s 1<lo∨hi<ac s 1))∨(x=.normal∧T=bl [(0,.string s),(94,Y)]∧(2≤(s.size:Int)∧lo≤ac s 1∧ac s 1≤hi))):=by
 refine nA y ?_
 rcases ep (decide ((s.size:Int)<2)) with h1 |h1
 ·have q1:=gb h1
  exact aH 2 h1<|fu 4 [(0,.string s),(94,aN)] .normal H (.inl ⟨rfl,rfl,D⟩)
 have q1:=gl h1
 rcases ep (decide ((ac s 1)<lo)) with h2 |h2
 ·have cw:=gb h2
  exact aH 2 h1<|bR 2 (1:Int) (s.size:Int)<|Z 1 (ag 0 g7 kb)<|aH 0 h2<|fu 3 [(0,.string s),(94,aN)] .normal H (.inl ⟨rfl,rfl,D⟩)
 have cw:=gl h2
 rcases ep (decide (hi<(ac s 1))) with h3 |h3
 ·have dv:=gb h3
  exact aH 2 h1<|bR 2 (1:Int) (s.size:Int)<|Z 1 (ag 0 g7 kb)<|aH 0 h2<|Z 3 (ag 1 g7 kb)<|bR 1 (1:Int) (s.size:Int)<|aH 0 h3<|fu 1 [(0,.string s),(94,aN)] .normal H (.inl ⟨rfl,rfl,D⟩)
 have dv:=gl h3
 exact aH 2 h1<|bR 2 (1:Int) (s.size:Int)<|Z 1 (ag 0 g7 kb)<|aH 0 h2<|Z 3 (ag 1 g7 kb)<|bR 1 (1:Int) (s.size:Int)<|aH 0 h3<|fu 1 [(0,.string s),(94,Y)] .normal H (.inr ⟨rfl,rfl,D⟩)
noncomputable def WJ:Code:=cN [1,0,0,0,1,0,1,1,1,1,1,1,0,1,1,1,0,0,0] (cH Tryz.f240)
theorem Lr (s:ByteArray) (b:Nat) (lo:Int) (hi:Int)  {H:U} (y:aa E G H) (kb:H.get b=some (O [ab lo,ab hi] 352)) (hs:0<(s.size:Int)) :
  jF E G 169 WJ [(0,.string s),(6,pt b 0)] H [] (fun x T H'=>(x=.normal∧T=bl [(0,.string s),(125,aN)]∧((s.size:Int)<3∨ac s 1<lo∨hi<ac s 1∨ac s 2<128∨191<ac s 2))∨(x=.normal∧T=bl [(0,.string s),(125,Y)]∧(3≤(s.size:Int)∧lo≤ac s 1∧ac s 1≤hi∧128≤ac s 2∧ac s 2≤191))):=by
 refine nA y ?_
 rcases ep (decide ((s.size:Int)<3)) with h1 |h1
 ·have q1:=gb h1
  exact aH 2 h1<|fu 8 [(0,.string s),(125,aN)] .normal H (.inl ⟨rfl,rfl,D⟩)
 have q1:=gl h1
 rcases ep (decide ((ac s 1)<lo)) with h2 |h2
 ·have cw:=gb h2
  exact aH 2 h1<|bR 2 (1:Int) (s.size:Int)<|Z 1 (ag 0 g7 kb)<|aH 0 h2<|fu 7 [(0,.string s),(125,aN)] .normal H (.inl ⟨rfl,rfl,D⟩)
 have cw:=gl h2
 rcases ep (decide (hi<(ac s 1))) with h3 |h3
 ·have dv:=gb h3
  exact aH 2 h1<|bR 2 (1:Int) (s.size:Int)<|Z 1 (ag 0 g7 kb)<|aH 0 h2<|Z 3 (ag 1 g7 kb)<|bR 1 (1:Int) (s.size:Int)<|aH 0 h3<|fu 5 [(0,.string s),(125,aN)] .normal H (.inl ⟨rfl,rfl,D⟩)
 have dv:=gl h3
 rcases ep (decide ((ac s 2)<128)) with h4 |h4
 ·have dT:=gb h4
  exact aH 2 h1<|bR 2 (1:Int) (s.size:Int)<|Z 1 (ag 0 g7 kb)<|aH 0 h2<|Z 3 (ag 1 g7 kb)<|bR 1 (1:Int) (s.size:Int)<|aH 0 h3<|bR 3 (2:Int) (s.size:Int)<|aH 0 h4<|fu 3 [(0,.string s),(125,aN)] .normal H (.inl ⟨rfl,rfl,D⟩)
 have dT:=gl h4
 rcases ep (decide (191<(ac s 2))) with h5 |h5
 ·have ff:=gb h5
  exact aH 2 h1<|bR 2 (1:Int) (s.size:Int)<|Z 1 (ag 0 g7 kb)<|aH 0 h2<|Z 3 (ag 1 g7 kb)<|bR 1 (1:Int) (s.size:Int)<|aH 0 h3<|bR 3 (2:Int) (s.size:Int)<|aH 0 h4<|bR 3 (2:Int) (s.size:Int)<|aH 0 h5<|fu 1 [(0,.string s),(125,aN)] .normal H (.inl ⟨rfl,rfl,D⟩)
 have ff:=gl h5
 exact aH 2 h1<|bR 2 (1:Int) (s.size:Int)<|Z 1 (ag 0 g7 kb)<|aH 0 h2<|Z 3 (ag 1 g7 kb)<|bR 1 (1:Int) (s.size:Int)<|aH 0 h3<|bR 3 (2:Int) (s.size:Int)<|aH 0 h4<|bR 3 (2:Int) (s.size:Int)<|aH 0 h5<|fu 1 [(0,.string s),(125,Y)] .normal H (.inr ⟨rfl,rfl,D⟩)
noncomputable def WK:Code:=cN [1,0,0,0,1,0,1,1,1,1,1,1,0,1,1,1,1,1,0,0,0] (cH Tryz.f240)
theorem Ls (s:ByteArray) (b:Nat) (lo:Int) (hi:Int)  {H:U} (y:aa E G H) (kb:H.get b=some (O [ab lo,ab hi] 352)) (hs:0<(s.size:Int)) :
  jF E G 169 WK [(0,.string s),(6,pt b 0)] H [] (fun x T H'=>(x=.normal∧T=bl [(0,.string s),(166,aN)]∧((s.size:Int)<4∨ac s 1<lo∨hi<ac s 1∨ac s 2<128∨191<ac s 2∨ac s 3<128∨191<ac s 3))∨(x=.normal∧T=bl [(0,.string s),(166,Y)]∧(4≤(s.size:Int)∧lo≤ac s 1∧ac s 1≤hi∧128≤ac s 2∧ac s 2≤191∧128≤ac s 3∧ac s 3≤191))):=by
 refine nA y ?_
 rcases ep (decide ((s.size:Int)<4)) with h1 |h1
 ·have q1:=gb h1
  exact aH 2 h1<|fu 12 [(0,.string s),(166,aN)] .normal H (.inl ⟨rfl,rfl,D⟩)
 have q1:=gl h1
 rcases ep (decide ((ac s 1)<lo)) with h2 |h2
 ·have cw:=gb h2
  exact aH 2 h1<|bR 2 (1:Int) (s.size:Int)<|Z 1 (ag 0 g7 kb)<|aH 0 h2<|fu 11 [(0,.string s),(166,aN)] .normal H (.inl ⟨rfl,rfl,D⟩)
 have cw:=gl h2
 rcases ep (decide (hi<(ac s 1))) with h3 |h3
 ·have dv:=gb h3
  exact aH 2 h1<|bR 2 (1:Int) (s.size:Int)<|Z 1 (ag 0 g7 kb)<|aH 0 h2<|Z 3 (ag 1 g7 kb)<|bR 1 (1:Int) (s.size:Int)<|aH 0 h3<|fu 9 [(0,.string s),(166,aN)] .normal H (.inl ⟨rfl,rfl,D⟩)
 have dv:=gl h3
 rcases ep (decide ((ac s 2)<128)) with h4 |h4
 ·have dT:=gb h4
  exact aH 2 h1<|bR 2 (1:Int) (s.size:Int)<|Z 1 (ag 0 g7 kb)<|aH 0 h2<|Z 3 (ag 1 g7 kb)<|bR 1 (1:Int) (s.size:Int)<|aH 0 h3<|bR 3 (2:Int) (s.size:Int)<|aH 0 h4<|fu 7 [(0,.string s),(166,aN)] .normal H (.inl ⟨rfl,rfl,D⟩)
 have dT:=gl h4
 rcases ep (decide (191<(ac s 2))) with h5 |h5
 ·have ff:=gb h5
  exact aH 2 h1<|bR 2 (1:Int) (s.size:Int)<|Z 1 (ag 0 g7 kb)<|aH 0 h2<|Z 3 (ag 1 g7 kb)<|bR 1 (1:Int) (s.size:Int)<|aH 0 h3<|bR 3 (2:Int) (s.size:Int)<|aH 0 h4<|bR 3 (2:Int) (s.size:Int)<|aH 0 h5<|fu 5 [(0,.string s),(166,aN)] .normal H (.inl ⟨rfl,rfl,D⟩)
 have ff:=gl h5
 rcases ep (decide ((ac s 3)<128)) with h6 |h6
 ·have e7:=gb h6
  exact aH 2 h1<|bR 2 (1:Int) (s.size:Int)<|Z 1 (ag 0 g7 kb)<|aH 0 h2<|Z 3 (ag 1 g7 kb)<|bR 1 (1:Int) (s.size:Int)<|aH 0 h3<|bR 3 (2:Int) (s.size:Int)<|aH 0 h4<|bR 3 (2:Int) (s.size:Int)<|aH 0 h5<|bR 3 (3:Int) (s.size:Int)<|aH 0 h6<|fu 3 [(0,.string s),(166,aN)] .normal H (.inl ⟨rfl,rfl,D⟩)
 have e7:=gl h6
 rcases ep (decide (191<(ac s 3))) with h7 |h7
 ·have mR:=gb h7
  exact aH 2 h1<|bR 2 (1:Int) (s.size:Int)<|Z 1 (ag 0 g7 kb)<|aH 0 h2<|Z 3 (ag 1 g7 kb)<|bR 1 (1:Int) (s.size:Int)<|aH 0 h3<|bR 3 (2:Int) (s.size:Int)<|aH 0 h4<|bR 3 (2:Int) (s.size:Int)<|aH 0 h5<|bR 3 (3:Int) (s.size:Int)<|aH 0 h6<|bR 3 (3:Int) (s.size:Int)<|aH 0 h7<|fu 1 [(0,.string s),(166,aN)] .normal H (.inl ⟨rfl,rfl,D⟩)
 have mR:=gl h7
 exact aH 2 h1<|bR 2 (1:Int) (s.size:Int)<|Z 1 (ag 0 g7 kb)<|aH 0 h2<|Z 3 (ag 1 g7 kb)<|bR 1 (1:Int) (s.size:Int)<|aH 0 h3<|bR 3 (2:Int) (s.size:Int)<|aH 0 h4<|bR 3 (2:Int) (s.size:Int)<|aH 0 h5<|bR 3 (3:Int) (s.size:Int)<|aH 0 h6<|bR 3 (3:Int) (s.size:Int)<|aH 0 h7<|fu 1 [(0,.string s),(166,Y)] .normal H (.inr ⟨rfl,rfl,D⟩)
def Jd (c:Nat):Nat:=if c<194 then 241 else if c<224 then 2 else if c=224 then 19 else if c=237 then 35 else if c<240 then 3 else if c=240 then 52 else if c<244 then 4 else if c=244 then 68 else 241
theorem X5 {c:Int} (h0:128≤c) (h1:c<256):((194≤c∧c<224)∧(Go.Pinned.utf8FirstZ.map fun (n:Nat)=>Value.int .u8 n)[0+c.toNat*1]?=some (ab 2))∨((c=224)∧(Go.Pinned.utf8FirstZ.map fun (n:Nat)=>Value.int .u8 n)[0+c.toNat*1]?=some (ab 19))∨((225≤c∧c<237∨c=238∨c=239)∧(Go.Pinned.utf8FirstZ.map fun (n:Nat)=>Value.int .u8 n)[0+c.toNat*1]?=some (ab 3))∨((c=237)∧(Go.Pinned.utf8FirstZ.map fun (n:Nat)=>Value.int .u8 n)[0+c.toNat*1]?=some (ab 35))∨((c=240)∧(Go.Pinned.utf8FirstZ.map fun (n:Nat)=>Value.int .u8 n)[0+c.toNat*1]?=some (ab 52))∨((241≤c∧c≤243)∧(Go.Pinned.utf8FirstZ.map fun (n:Nat)=>Value.int .u8 n)[0+c.toNat*1]?=some (ab 4))∨((c=244)∧(Go.Pinned.utf8FirstZ.map fun (n:Nat)=>Value.int .u8 n)[0+c.toNat*1]?=some (ab 68))∨((c<194∨245≤c)∧(Go.Pinned.utf8FirstZ.map fun (n:Nat)=>Value.int .u8 n)[0+c.toNat*1]?=some (ab 241)):=by
 have key:((List.range 256).all fun n=>Nat.blt n 128||(Go.Pinned.utf8FirstZ[n]?==some (Jd n)))=true:=by kernel_rfl
 obtain ⟨n,rfl⟩:=Int.eq_ofNat_of_zero_le (show 0≤c by omega)
 have:=List.all_eq_true.1 key n (List.mem_range.2 D)
 rw [Bool.or_eq_true] at this
 have e:Go.Pinned.utf8FirstZ[n]?=some (Jd n):=by
  rcases this with h |h
  ·exfalso;simp only [Nat.blt_eq] at h;omega
  ·exact pu h
 rw [show 0+(n:Int).toNat*1=n by omega,List.getElem?_map,e]
 simp only [Option.map_some,bx,Value.int.injEq,true_and]
 unfold Jd
 (repeat' split) <;> omega
noncomputable def Wm:Code:=cN [1,0,0,0] (cH Tryz.f240)
noncomputable abbrev sZ H1:=news H1 [O [ab 0,ab 0] 352]
noncomputable abbrev K2 H1:=news H1 [O [ab 128,ab 191] 352]
theorem abT (R:Bool):∀(m:Nat) (x0:ByteArray) (H:U),aa E G H→(hR:fc x0 0=R)→x0.size=m→
  cy E G 169 Wm [(0,.string x0)] H [] (fun x T H'=>(x=(.exit 0)∧T=bl []∧(R=true))∨(x=.ret∧T=bl [(2,Y)]∧(R=false))):=by
 refine d8 fun m ih=>?_
 intro x0 H y hR hm
 have ajl:=gG x0 0
 have fk:=jK x0 0
 refine c9 y ?_
 refine aO 2 ((x0.size:Int)>0) ?_ ?_ <;> intro h1 q1
 ·obtain ⟨_,_,H1,c1,af,y1,b7⟩:=ad1 x0 (ac x0 0) R  y D rfl hR
  refine bR 1 (0:Int) (x0.size:Int)<|aK [aB 0]<|?_
  rcases b7 with ⟨rfl,rfl,cM⟩ |⟨rfl,DU,rfl,cM,lE⟩
  ·have cI:H.n+0≤H1.n:=af.n
   refine gS 0 1 c1<|bR 1 (ac x0 0) (256:Int)<|?_
   rcases X5 (c:=(ac x0 0)) D (jK _ _) with ⟨jM,hfn⟩ |⟨jM,hfn⟩ |⟨jM,hfn⟩ |⟨jM,hfn⟩ |⟨jM,hfn⟩ |⟨jM,hfn⟩ |⟨jM,hfn⟩ |⟨jM,hfn⟩
   ·have oF:=y.kept af ai (u5 y)
    have l4:=y.kept af ai (u6 y)
    obtain ⟨_,_,H2,c2,ar,ah,dC⟩:=ad2 x0 (H1.n+0) 128 191 (y1.news [O [ab 128,ab 191] 352]) (aL [O [ab 128,ab 191] 352] H1 0 _ rfl) D
    refine Z 0 (d7 g7 oF hfn:ay E 5 12 (0+(ac x0 0).toNat*1) H1=some (ab 2))<|Z 8 (cg vb od l4 rfl rfl:ay E 352 13 0 H1=some (.agg #[ab 128,ab 191]))<|aC 1 (bT od rfl rfl rfl rfl:bp E 352 (H1.n+0) 0 (.agg #[ab 128,ab 191]) (sZ H1)=some (K2 H1))<|aK [aB 2]<|?_
    rcases dC with ⟨rfl,rfl,kV⟩ |⟨rfl,rfl,kV⟩
    ·have cl:=dA ar
     exact gS 0 3 c2<|en 1 [(2,Y)] .ret H2 [H1.n+0] aQ aZ (.inr ⟨rfl,rfl,wH hR D ((R7 jM).trans (if_neg (by unfold dB;omega)))⟩)
    have cl:=dA ar
    have wC:=mh x0 2
    exact gS 0 3 c2<|aK [aB 0]<|eM [.ak] (by omega:0≤(2:Int)) (by omega:(2:Int)≤(x0.size:Int))<|dY 1 [(0,.string (cT x0 2))] H2 [H1.n+0] aQ (ih _ D (cT x0 2) _ ah (wI hR D ((R7 jM).trans (if_pos (by unfold dB;omega))) D) rfl)
   ·have oF:=y.kept af ai (u5 y)
    have l4:=y.kept af ai (u6 y)
    obtain ⟨_,_,H2,c2,ar,ah,dC⟩:=Lr x0 (H1.n+0) 160 191 (y1.news [O [ab 160,ab 191] 352]) (aL [O [ab 160,ab 191] 352] H1 0 _ rfl) D
    refine Z 0 (d7 g7 oF hfn:ay E 5 12 (0+(ac x0 0).toNat*1) H1=some (ab 19))<|Z 8 (cg vb od l4 rfl rfl:ay E 352 13 2 H1=some (.agg #[ab 160,ab 191]))<|aC 1 (bT od rfl rfl rfl rfl:bp E 352 (H1.n+0) 0 (.agg #[ab 160,ab 191]) (sZ H1)=some (news H1 [O [ab 160,ab 191] 352]))<|aK [aB 4]<|?_
    rcases dC with ⟨rfl,rfl,kV⟩ |⟨rfl,rfl,kV⟩
    ·have cl:=dA ar
     exact gS 0 3 c2<|en 1 [(2,Y)] .ret H2 [H1.n+0] aQ aZ (.inr ⟨rfl,rfl,wH hR D ((R8 jM).trans (if_neg (by unfold dB;omega)))⟩)
    have cl:=dA ar
    have wC:=mh x0 3
    exact gS 0 3 c2<|aK [aB 0]<|eM [.ak] (by omega:0≤(3:Int)) (by omega:(3:Int)≤(x0.size:Int))<|dY 1 [(0,.string (cT x0 3))] H2 [H1.n+0] aQ (ih _ D (cT x0 3) _ ah (wI hR D ((R8 jM).trans (if_pos (by unfold dB;omega))) D) rfl)
   ·have oF:=y.kept af ai (u5 y)
    have l4:=y.kept af ai (u6 y)
    obtain ⟨_,_,H2,c2,ar,ah,dC⟩:=Lr x0 (H1.n+0) 128 191 (y1.news [O [ab 128,ab 191] 352]) (aL [O [ab 128,ab 191] 352] H1 0 _ rfl) D
    refine Z 0 (d7 g7 oF hfn:ay E 5 12 (0+(ac x0 0).toNat*1) H1=some (ab 3))<|Z 8 (cg vb od l4 rfl rfl:ay E 352 13 0 H1=some (.agg #[ab 128,ab 191]))<|aC 1 (bT od rfl rfl rfl rfl:bp E 352 (H1.n+0) 0 (.agg #[ab 128,ab 191]) (sZ H1)=some (K2 H1))<|aK [aB 4]<|?_
    rcases dC with ⟨rfl,rfl,kV⟩ |⟨rfl,rfl,kV⟩
    ·have cl:=dA ar
     exact gS 0 3 c2<|en 1 [(2,Y)] .ret H2 [H1.n+0] aQ aZ (.inr ⟨rfl,rfl,wH hR D ((R9 jM).trans (if_neg (by unfold dB;omega)))⟩)
    have cl:=dA ar
    have wC:=mh x0 3
    exact gS 0 3 c2<|aK [aB 0]<|eM [.ak] (by omega:0≤(3:Int)) (by omega:(3:Int)≤(x0.size:Int))<|dY 1 [(0,.string (cT x0 3))] H2 [H1.n+0] aQ (ih _ D (cT x0 3) _ ah (wI hR D ((R9 jM).trans (if_pos (by unfold dB;omega))) D) rfl)
   ·have oF:=y.kept af ai (u5 y)
    have l4:=y.kept af ai (u6 y)
    obtain ⟨_,_,H2,c2,ar,ah,dC⟩:=Lr x0 (H1.n+0) 128 159 (y1.news [O [ab 128,ab 159] 352]) (aL [O [ab 128,ab 159] 352] H1 0 _ rfl) D
    refine Z 0 (d7 g7 oF hfn:ay E 5 12 (0+(ac x0 0).toNat*1) H1=some (ab 35))<|Z 8 (cg vb od l4 rfl rfl:ay E 352 13 4 H1=some (.agg #[ab 128,ab 159]))<|aC 1 (bT od rfl rfl rfl rfl:bp E 352 (H1.n+0) 0 (.agg #[ab 128,ab 159]) (sZ H1)=some (news H1 [O [ab 128,ab 159] 352]))<|aK [aB 4]<|?_
    rcases dC with ⟨rfl,rfl,kV⟩ |⟨rfl,rfl,kV⟩
    ·have cl:=dA ar
     exact gS 0 3 c2<|en 1 [(2,Y)] .ret H2 [H1.n+0] aQ aZ (.inr ⟨rfl,rfl,wH hR D ((Sa jM).trans (if_neg (by unfold dB;omega)))⟩)
    have cl:=dA ar
    have wC:=mh x0 3
    exact gS 0 3 c2<|aK [aB 0]<|eM [.ak] (by omega:0≤(3:Int)) (by omega:(3:Int)≤(x0.size:Int))<|dY 1 [(0,.string (cT x0 3))] H2 [H1.n+0] aQ (ih _ D (cT x0 3) _ ah (wI hR D ((Sa jM).trans (if_pos (by unfold dB;omega))) D) rfl)
   ·have oF:=y.kept af ai (u5 y)
    have l4:=y.kept af ai (u6 y)
    obtain ⟨_,_,H2,c2,ar,ah,dC⟩:=Ls x0 (H1.n+0) 144 191 (y1.news [O [ab 144,ab 191] 352]) (aL [O [ab 144,ab 191] 352] H1 0 _ rfl) D
    refine Z 0 (d7 g7 oF hfn:ay E 5 12 (0+(ac x0 0).toNat*1) H1=some (ab 52))<|Z 8 (cg vb od l4 rfl rfl:ay E 352 13 6 H1=some (.agg #[ab 144,ab 191]))<|aC 1 (bT od rfl rfl rfl rfl:bp E 352 (H1.n+0) 0 (.agg #[ab 144,ab 191]) (sZ H1)=some (news H1 [O [ab 144,ab 191] 352]))<|aK [aB 6]<|?_
    rcases dC with ⟨rfl,rfl,kV⟩ |⟨rfl,rfl,kV⟩
    ·have cl:=dA ar
     exact gS 0 3 c2<|en 1 [(2,Y)] .ret H2 [H1.n+0] aQ aZ (.inr ⟨rfl,rfl,wH hR D ((Sb jM).trans (if_neg (by unfold dB;omega)))⟩)
    have cl:=dA ar
    have wC:=mh x0 4
    exact gS 0 3 c2<|aK [aB 0]<|eM [.ak] (by omega:0≤(4:Int)) (by omega:(4:Int)≤(x0.size:Int))<|dY 1 [(0,.string (cT x0 4))] H2 [H1.n+0] aQ (ih _ D (cT x0 4) _ ah (wI hR D ((Sb jM).trans (if_pos (by unfold dB;omega))) D) rfl)
   ·have oF:=y.kept af ai (u5 y)
    have l4:=y.kept af ai (u6 y)
    obtain ⟨_,_,H2,c2,ar,ah,dC⟩:=Ls x0 (H1.n+0) 128 191 (y1.news [O [ab 128,ab 191] 352]) (aL [O [ab 128,ab 191] 352] H1 0 _ rfl) D
    refine Z 0 (d7 g7 oF hfn:ay E 5 12 (0+(ac x0 0).toNat*1) H1=some (ab 4))<|Z 8 (cg vb od l4 rfl rfl:ay E 352 13 0 H1=some (.agg #[ab 128,ab 191]))<|aC 1 (bT od rfl rfl rfl rfl:bp E 352 (H1.n+0) 0 (.agg #[ab 128,ab 191]) (sZ H1)=some (K2 H1))<|aK [aB 6]<|?_
    rcases dC with ⟨rfl,rfl,kV⟩ |⟨rfl,rfl,kV⟩
    ·have cl:=dA ar
     exact gS 0 3 c2<|en 1 [(2,Y)] .ret H2 [H1.n+0] aQ aZ (.inr ⟨rfl,rfl,wH hR D ((Sc jM).trans (if_neg (by unfold dB;omega)))⟩)
    have cl:=dA ar
    have wC:=mh x0 4
    exact gS 0 3 c2<|aK [aB 0]<|eM [.ak] (by omega:0≤(4:Int)) (by omega:(4:Int)≤(x0.size:Int))<|dY 1 [(0,.string (cT x0 4))] H2 [H1.n+0] aQ (ih _ D (cT x0 4) _ ah (wI hR D ((Sc jM).trans (if_pos (by unfold dB;omega))) D) rfl)
   ·have oF:=y.kept af ai (u5 y)
    have l4:=y.kept af ai (u6 y)
    obtain ⟨_,_,H2,c2,ar,ah,dC⟩:=Ls x0 (H1.n+0) 128 143 (y1.news [O [ab 128,ab 143] 352]) (aL [O [ab 128,ab 143] 352] H1 0 _ rfl) D
    refine Z 0 (d7 g7 oF hfn:ay E 5 12 (0+(ac x0 0).toNat*1) H1=some (ab 68))<|Z 8 (cg vb od l4 rfl rfl:ay E 352 13 8 H1=some (.agg #[ab 128,ab 143]))<|aC 1 (bT od rfl rfl rfl rfl:bp E 352 (H1.n+0) 0 (.agg #[ab 128,ab 143]) (sZ H1)=some (news H1 [O [ab 128,ab 143] 352]))<|aK [aB 6]<|?_
    rcases dC with ⟨rfl,rfl,kV⟩ |⟨rfl,rfl,kV⟩
    ·have cl:=dA ar
     exact gS 0 3 c2<|en 1 [(2,Y)] .ret H2 [H1.n+0] aQ aZ (.inr ⟨rfl,rfl,wH hR D ((Sd jM).trans (if_neg (by unfold dB;omega)))⟩)
    have cl:=dA ar
    have wC:=mh x0 4
    exact gS 0 3 c2<|aK [aB 0]<|eM [.ak] (by omega:0≤(4:Int)) (by omega:(4:Int)≤(x0.size:Int))<|dY 1 [(0,.string (cT x0 4))] H2 [H1.n+0] aQ (ih _ D (cT x0 4) _ ah (wI hR D ((Sd jM).trans (if_pos (by unfold dB;omega))) D) rfl)
   have oF:=y.kept af ai (u5 y)
   have l4:=y.kept af ai (u6 y)
   exact Z 0 (d7 g7 oF hfn:ay E 5 12 (0+(ac x0 0).toNat*1) H1=some (ab 241))<|Z 8 (cg vb od l4 rfl rfl:ay E 352 13 30 H1=some (.agg #[ab 0,ab 0]))<|aC 1 (bT od rfl rfl rfl rfl:bp E 352 (H1.n+0) 0 (.agg #[ab 0,ab 0]) (sZ H1)=some (sZ H1))<|en 8 [(2,Y)] .ret (sZ H1) [H1.n+0] aQ aZ (.inr ⟨rfl,rfl,wH hR D (ae4 D jM)⟩)
  exact gS 0 1 c1<|dU 0 [(0,.string DU)] H1 (ih _ D DU _ y1 lE rfl)
 exact dF 0 [] (.exit 0) H (.inl ⟨rfl,rfl,aib hR D⟩)
theorem aic (s:ByteArray) {H:U} (y:aa E G H):aI E G 240 [.string s] H [] (fun v H'=>v=(.bool (fc s 0))):=by
 refine br Tryz.f240 y ?_
 obtain ⟨_,_,H1,c1,af,y1,b7⟩:=(abT (fc s 0) _ s _ y rfl rfl).code
 rcases b7 with ⟨rfl,rfl,cM⟩ |⟨rfl,rfl,cM⟩
 ·exact bW 1 c1<|al 1 aN H1 (by rw [cM])
 exact bW 1 c1<|al 0 Y H1 (by rw [cM])
theorem TW (s:ByteArray):∀{H:U},aa E G H→bE E 240 [.string s] H (.ret (.bool (fc s 0))) H []:=by
 obtain ⟨_,_,c,_,_,rfl⟩:=aic s gE
 exact fun y=>gx (iP rfl) (.ground rfl) c y
def nO (E:Env) (ts:Array TypeId) (e:TypeId) (sz oo:Nat):Bool:=
 match ts[0]? with
 |some t=>match E.ul t with
  |some (.slice e')=>Nat.beq e e'&&(match E.info e with
   |some i=>match i.zero with
    |some z=>!E.tight e&&!AP E ts&&Nat.beq z.cells.size i.size&&Nat.blt 0 i.size&&Nat.blt 0 i.bytes&&Nat.beq i.size sz&&Nat.beq i.bytes oo
    |none=>false
   |none=>false)
  |_=>false
 |none=>false
theorem Bb {ts:Array TypeId} {e sz oo:Nat} (hc:nO E ts e sz oo=true):∃ i:TypeInfo,i.size=sz∧i.bytes=oo∧∀{s x:Value} {H:U} {m:Nat} {new:List Value} {R:List Nat},pP x sz=true→hG H sz x=some (m,new,R)→new.all one=true→eW E ts s x H=wY E e i s m new R H:=by
 unfold nO at hc
 split at hc
 ·rename_i t h0
  split at hc
  ·rename_i e' hu
   simp only [dI] at hc
   obtain ⟨he,hc⟩:=hc
   have he:=Nat.eq_of_beq_eq_true he
   subst he
   split at hc
   ·rename_i i hi
    split at hc
    ·rename_i z hz
     simp only [dI] at hc
     obtain ⟨⟨⟨⟨⟨⟨a0,a1⟩,a2⟩,a3⟩,a4⟩,a5⟩,a6⟩:=hc
     have a5:=Nat.eq_of_beq_eq_true a5
     have a6:=Nat.eq_of_beq_eq_true a6
     refine ⟨i,a5,a6,fun {s x H m new R} hs hsrc ho=>?_⟩
     subst a5
     have:(!E.tight e&&!AP E ts&&Nat.beq z.cells.size i.size&&Nat.blt 0 i.size&&Nat.blt 0 i.bytes&&pP x i.size)=true:=by
      simp only [dI];exact ⟨⟨⟨⟨⟨a0,a1⟩,a2⟩,a3⟩,a4⟩,hs⟩
     unfold eW
     simp only [h0,hu,hi,hz]
     rw [this]
     simp only [cond_true,hsrc,ho]
    ·cases hc
   ·cases hc
  ·cases hc
 ·cases hc
theorem GV {H:U} {b off n:Nat} {c:List Value} {e:TypeId} {ro:Bool} (h:H.get b=some (.cells c e ro)) (hn:off+n≤c.length):row H b off n=some ((c.drop off).take n):=by
 simp only [row,h,Nat.ble_eq_true_of_le hn,cond_true]
theorem gt {H:U} {b off n cap sz:Nat} {c:List Value} {e:TypeId} {ro:Bool} (h:H.get b=some (.cells c e ro)) (hn:off+n*sz≤c.length):hG H sz (sc b off n cap)=some (n,(c.drop off).take (n*sz),[b]):=by
 show (match row H b off (n*sz) with |some xs=>some (n,xs,[b]) |none=>none)=_
 rw [GV h hn]
section
variable {ts:Array TypeId} {e sz oo:Nat} (hc:nO E ts e sz oo=true) {H:U} {x:Value} {m:Nat} {new:List Value} {R:List Nat} (hs:pP x sz=true) (hx:hG H sz x=some (m,new,R)) (ho:new.all one=true)
include hc hs hx ho
theorem wX (hm:0<m) (hb:m*oo≤1099511627776):eW E ts (.slice none 0 0) x H=some (sc H.n 0 m (2*sz),H.new (.cells new e false),[],R):=by
 obtain ⟨i,h1,h2,h3⟩:=Bb hc
 rw [h3 hs hx ho]
 unfold wY
 have e1:Nat.beq m 0=false:=iz D
 have e2:Nat.ble (m*i.bytes) most=true:=Nat.ble_eq_true_of_le (by rw [h2];exact hb)
 simp only [e1,e2,cond_true,cond_false,h1]
theorem Bc {b off n c:Nat} {cs:List Value} {e':TypeId} {ro:Bool} (hg:H.get b=some (.cells cs e' ro)) (hn:off+n*sz≤cs.length) (hcap:c<n+m) (hb:(n+m)*oo≤1099511627776) :
  eW E ts (sc b off n (2*c+1)) x H=some (sc H.n 0 (n+m) (2*sz),H.new (.cells ((cs.drop off).take (n*sz)++new) e false),[],b::R):=by
 obtain ⟨i,h1,h2,h3⟩:=Bb hc
 rw [h3 hs hx ho]
 unfold wY
 have e0:ko (2*c+1)=.known c:=by
  unfold ko
  rw [l7 (show (2*c+1)%2=1 by omega)]
  simp only [cond_true];congr 1;omega
 have e1:Nat.ble (n+m) c=false:=by
  cases h:Nat.ble (n+m) c with
  |false=>rfl
  |true=>have:=ec h;omega
 have e2:Nat.ble ((n+m)*i.bytes) most=true:=Nat.ble_eq_true_of_le (by rw [h2];exact hb)
 simp only [sc,e0,e1,e2,cond_true,cond_false,h1]
 rw [GV hg hn]
theorem sk {b off n:Nat} {cs:List Value} (hg:H.get b=some (.cells cs e false)) (hn:off+n*sz≤cs.length) (hb:(n+m)*oo≤1099511627776) :
  eW E ts (sc b off n (2*sz)) x H=some (sc H.n 0 (n+m) (2*sz),(H.set b .dead).new (.cells ((cs.drop off).take (n*sz)++new) e false),[b],b::R):=by
 obtain ⟨i,h1,h2,h3⟩:=Bb hc
 rw [h3 hs hx ho]
 unfold wY
 have e0:ko (2*sz)=.uH sz:=by
  unfold ko
  rw [iz (show (2*sz)%2≠1 by omega)]
  simp only [cond_false];congr 1;omega
 have e2:Nat.ble ((n+m)*i.bytes) most=true:=Nat.ble_eq_true_of_le (by rw [h2];exact hb)
 have aM:(Nat.ble (off+n*i.size) cs.length&&Nat.beq sz i.size&&Nat.beq e e&&Nat.ble ((n+m)*i.bytes) most)=true:=by
  rw [h1,e2,Nat.ble_eq_true_of_le hn,Nat.beq_refl,Nat.beq_refl];rfl
 simp only [sc,e0,hg,aM,cond_true]
 rw [h1]
end
theorem tj {H K:U} {b:Nat} {o:df} (e:K=(H.set b .dead).new o):K.get H.n=some o:=by rw [e,U.jn,if_pos];rfl
theorem lF {E:Env} {G H K:U} (y:aa E G H) {b q:Nat} {o o':df} (e:K=(H.set b .dead).new o) (hne:b≠q) (k:H.get q=some o'):K.get q=some o':=by
 have:=y.wf.lt k
 have hn:(H.set b .dead).n=H.n:=rfl
 rw [e,U.jn,if_neg D,U.kr,if_neg hne];exact k
theorem th {E:Env} {G H K:U} (y:aa E G H) {b:Nat} {o:df} (e:K=(H.set b .dead).new o) (h1:G.n≤b) (h2:b<H.n):aa E G K:=e▸((y.set .dead h1 h2).news [o])
theorem ti {H K:U} {b:Nat} {o:df} (e:K=(H.set b .dead).new o):K.n=H.n+1:=by rw [e];rfl
theorem Wq {E:Env} {ts:Array TypeId} {t e n b off c:Nat} {z:Value} {H:U} {cs cs':List Value} {e':TypeId} (h0:ts[0]?=some t) (hu:E.ul t=some (.slice e)) (hz:E.zero e=some z) (hg:H.get b=some (.cells cs e' false))
  (hc:(Nat.ble (off+(n+1)*z.cells.size) cs.length&&z.cells.toList.all one&&ground z)=true) (hs:splice cs off (hM z.cells.toList (n+1))=cs') :
  w8 E ts (sc b off (n+1) c) H=some (cZ,H.set b (.cells cs' e' false),[b],[b]):=by
 simp only [w8,h0,hu,sc,hz,hg,hc,cond_true,hs]
theorem Uw:nO E #[180,180] 184 2 32=true:=av
theorem GS (v:List Value) (h:v.all k5=true:=by rfl):∀ x∈[Value.agg v.toArray],jx x:=fun x hx=>by
 simp only [List.mem_cons,ai,or_false] at hx
 subst hx
 exact .ground (by show v.toArray.toList.all k5=true;simpa using h)
theorem ab3 (s:ByteArray) {H:U} (y:aa E G H):aI E G 201 [.string s] H [] (fun v H'=>v=(.bool (lG s))):=by
 refine br Tryz.f201 y ?_
 refine aO 3 ((s.size:Int)≤200) ?_ ?_ <;> intro h1 q1
 ·cases h2:(fc s 0) with
  |true=>
   exact ad 2 (c5 h2 (TW s y))<|al 2 aN H (by rw [lG,h1,h2] <;> rfl)
  |false=>
   exact ad 2 (c5 h2 (TW s y))<|al 2 Y H (by rw [lG,h1,h2] <;> rfl)
 exact al 3 Y H (by rw [lG,h1] <;> rfl)
theorem Qi (s:ByteArray):∀{H:U},aa E G H→bE E 201 [.string s] H (.ret (.bool (lG s))) H []:=by
 obtain ⟨_,_,c,_,_,rfl⟩:=ab3 s gE
 exact fun y=>gx (iP rfl) (.ground rfl) c y
noncomputable abbrev ga a s:=([.string a,.string s]:List Value)
noncomputable abbrev jQ H a s:=news H (lD (ga a s))
theorem ab2 (a:ByteArray) (s:ByteArray) {H:U} (y:aa E G H) (ha:(a.size:Int)<1000):aI E G 154 [.agg (ga a s).toArray] H [] (fun v H'=>v=(.bool (oJ a s))):=by
 refine br Tryz.f154 y ?_
 refine Z 3 (aR (jQ H a s) 0 0 ct)<|?_
 cases h1:(iY a) with
 |true=>
  refine ad 0 (c5 h1 (CE a D (y.news (lD (ga a s)))))<|Z 2 (aR (jQ H a s) 0 1 ct)<|?_
  cases h2:(lG s) with
  |true=>
   exact ad 0 (c5 h2 (Qi s (y.news (lD (ga a s)))))<|al 2 aN (jQ H a s) (by rw [oJ,h1,h2] <;> rfl)
  |false=>
   exact ad 0 (c5 h2 (Qi s (y.news (lD (ga a s)))))<|al 2 Y (jQ H a s) (by rw [oJ,h1,h2] <;> rfl)
 |false=>
  exact ad 0 (c5 h1 (CE a D (y.news (lD (ga a s)))))<|al 3 Y (jQ H a s) (by rw [oJ,h1] <;> rfl)
theorem Cm (a:ByteArray) (s:ByteArray) (ha:(a.size:Int)<1000):∀{H:U},aa E G H→bE E 154 [.agg (ga a s).toArray] H (.ret (.bool (oJ a s))) H []:=by
 obtain ⟨_,_,c,_,_,rfl⟩:=ab2 a s gE ha
 exact fun y=>gx (GS _) (.ground rfl) c y
theorem ab1 (a:ByteArray) (s:ByteArray) {H:U} (y:aa E G H):aI E G 156 [.agg (ga a s).toArray] H [] (fun v H'=>v=(.bool (pr s))):=by
 refine br Tryz.f156 y ?_
 refine Z 3 (aR (jQ H a s) 0 1 ct)<|oS 0 (s.toList==(⟨#[]⟩:ByteArray).toList) (fun h1=>?_) fun h1=>?_
 ·exact al 1 aN (jQ H a s) (by rw [pr,h1] <;> rfl)
 exact al 1 Y (jQ H a s) (by rw [pr,h1] <;> rfl)
theorem Qh (a:ByteArray) (s:ByteArray):∀{H:U},aa E G H→bE E 156 [.agg (ga a s).toArray] H (.ret (.bool (pr s))) H []:=by
 obtain ⟨_,_,c,_,_,rfl⟩:=ab1 a s gE
 exact fun y=>gx (GS _) (.ground rfl) c y
noncomputable abbrev Q3 H a s:=news H [O [] 184,O (ga a s) 184]
theorem ab4 (z:Nat) (a:ByteArray) (s:ByteArray) {H:U} (y:aa E G H) (i8:H.get z=some (O [.string a,.string s] 184)):aI E G 151 [sc z 0 1 3] H [] (fun v H'=>∃ b,v=sc b 0 1 4∧H.n≤b∧H'.get b=some (O [.string a,.string s] 184)):=by
 refine br Tryz.f151 y ?_
 exact eL 5 (show eW E #[180,180] (sc (H.n+0) 0 0 1) (sc z 0 1 3) (news H [O [] 184])=some (sc (H.n+1) 0 1 4,Q3 H a s,[],[H.n+0,z]) from Bc (c:=0) Uw rfl (show hG (news H [O [] 184]) 2 (sc z 0 1 3)=some (1,[.string a,.string s],[z]) from gt (y.old i8 [O [] 184]) (ec rfl)) rfl (aL [O [] 184] H 0 _ rfl) (ec rfl) (by decide) (by decide))<|al 1 (sc (H.n+1) 0 1 4) (Q3 H a s) ⟨_,rfl,D,aL [O [] 184,O (ga a s) 184] H 1 _ rfl⟩
noncomputable def Wl:Code:=cN [1,0,0] (cH Tryz.f229)
theorem abS (z:Nat) (a:ByteArray) (s:ByteArray)  {H:U} (y:aa E G H):cy E G 53 Wl [(0,sc z 0 1 4),(1,J 0),(2,J 1),(3,bQ 153),(8,J 1)] H [] (fun x T H'=>(x=(.exit 0)∧T=bl [])):=by
 refine c9 y ?_
 exact dF 3 [] (.exit 0) H ⟨rfl,rfl⟩
theorem agX (z:Nat) {H:U} (y:aa E G H):aI E G 229 [sc z 0 1 4,J 0,J 1,bQ 153] H [] (fun v H'=>v=cZ):=by
 refine br Tryz.f229 y ?_
 obtain ⟨_,_,H1,c1,af,y1,rfl,rfl⟩:=(abS z ⟨#[]⟩ ⟨#[]⟩  y ).code
 exact bW 3 c1<|al 0 (.tuple #[]) H1 rfl
noncomputable def Wk:Code:=cN [1,1,0,0] (cH Tryz.f198)
theorem abP (z:Nat) (n:Int)  {H:U} (y:aa E G H):cy E G 148 Wk [(0,sc z 0 1 4),(1,J 0),(2,J 1),(3,J n),(4,bQ 153),(10,aN),(11,aN)] H [] (fun x T H'=>(x=.ret∧T=bl [])):=by
 refine c9 y ?_
 obtain ⟨_,H1,c1,af,y1,rfl⟩:=agX z y
 exact ad 10 c1<|dF 0 [] .ret H1 ⟨rfl,rfl⟩
theorem aej (z:Nat) (n:Int) {H:U} (y:aa E G H):aI E G 198 [sc z 0 1 4,J 0,J 1,J n,bQ 153] H [] (fun v H'=>v=cZ):=by
 refine br Tryz.f198 y ?_
 obtain ⟨_,_,H1,c1,af,y1,rfl,rfl⟩:=(abP z n  y ).code
 exact bW 2 c1<|al 0 (.tuple #[]) H1 rfl
theorem agY (z:Nat) {H:U} (y:aa E G H):aI E G 152 [sc z 0 1 4,bQ 153] H [] (fun v H'=>v=cZ):=by
 refine br Tryz.f152 y ?_
 obtain ⟨_,H1,c1,af,y1,rfl⟩:=aej z 1 y
 exact ad 7 (ae3 (f:=400) av (iP rfl) (.ground rfl) y:bE E 199 [ax 1] H (.ret (J 1)) H [])<|ad 1 c1<|al 0 (.tuple #[]) H1 rfl
noncomputable def Oi:Code:=cN [1,0,1,0,0] (cH Tryz.f202)
theorem abR (z:Nat) (a:ByteArray) (s:ByteArray) (R:Bool)  {H:U} (y:aa E G H) (i8:H.get z=some (O (ga a s) 184)) (hR:R=false):cy E G 19 Oi [(0,sc z 0 1 4),(1,bQ 156),(7,J 1),(8,J 1)] H [] (fun x T H'=>(x=(.exit 0)∧T=bl []∧(R=false))∨(x=.ret∧T=bl [(4,J 0)]∧(R=true))):=by
 refine c9 y ?_
 exact dF 1 [] (.exit 0) H (.inl ⟨rfl,rfl,hR⟩)
theorem abQ (z:Nat) (a:ByteArray) (s:ByteArray) (R:Bool)  {H:U} (y:aa E G H) (i8:H.get z=some (O (ga a s) 184)) (hR:pr s=R):cy E G 19 Oi [(0,sc z 0 1 4),(1,bQ 156),(7,J 1),(8,J 0)] H [] (fun x T H'=>(x=(.exit 0)∧T=bl []∧(R=false))∨(x=.ret∧T=bl [(4,J 0)]∧(R=true))):=by
 refine c9 y ?_
 refine Z 7 (cg rc oc i8 rfl rfl:ay E 184 z 0 H=some (.agg (ga a s).toArray))<|?_
 cases h1:(pr s) with
 |true=>
  exact ad 0 (c5 h1 (Qh a s y))<|dF 2 [(4,J 0)] .ret H (.inr ⟨rfl,rfl,hR.symm.trans h1⟩)
 |false=>
  exact ad 0 (c5 h1 (Qh a s y))<|dU 2 [(0,sc z 0 1 4),(1,bQ 156),(7,J 1),(8,J 1)] H (abR z a s R  y i8 (hR.symm.trans h1))
theorem aaj (z:Nat) (a:ByteArray) (s:ByteArray) {H:U} (y:aa E G H) (i8:H.get z=some (O [.string a,.string s] 184)):aI E G 202 [sc z 0 1 4,bQ 156] H [] (fun v H'=>(v=J 0∧pr s=true)∨(v=J (-1)∧pr s=false)):=by
 refine br Tryz.f202 y ?_
 obtain ⟨_,_,H1,c1,af,y1,b7⟩:=(abQ z a s (pr s)  y i8 rfl).code
 rcases b7 with ⟨rfl,rfl,cM⟩ |⟨rfl,rfl,cM⟩
 ·exact bW 4 c1<|al 1 (J (-1)) H1 (.inr ⟨rfl,cM⟩)
 exact bW 4 c1<|al 0 (J 0) H1 (.inl ⟨rfl,cM⟩)
noncomputable def Wo:Code:=cN [1,1,1,0,1,0,0] (cH Tryz.f155)
theorem abX (z:Nat) (a:ByteArray) (s:ByteArray)  {H:U} (y:aa E G H) (i8:H.get z=some (O (ga a s) 184)):cy E G 42 Wo [(0,sc z 0 1 4),(1,bQ 156),(5,J 0),(6,J 1)] H [] (fun x T H'=>(x=(.exit 0)∧T=bl [(0,sc z 0 1 4),(5,J 0)])):=by
 refine c9 y ?_
 exact dF 4 [(0,sc z 0 1 4),(5,J 0)] (.exit 0) H ⟨rfl,rfl⟩
theorem XA (z:Nat) (a:ByteArray) (s:ByteArray) {H:U} (y:aa E G H) (i8:H.get z=some (O [.string a,.string s] 184)) (hz:G.n≤z):aI E G 155 [sc z 0 1 4,bQ 156] H [z] (fun v H'=>(v=sc z 0 1 4∧H'.get z=some (O [.string a,.string s] 184)∧pr s=false)∨(v=sc z 0 0 4∧pr s=true)):=by
 refine br Tryz.f155 y ?_
 have akg:=y.wf.lt i8
 obtain ⟨_,H1,c1,af,y1,b7⟩:=aaj z a s y i8
 rcases b7 with ⟨rfl,he⟩ |⟨rfl,he⟩
 ·have cI:H.n+0≤H1.n:=af.n
  have Fm:=y.kept af ai i8
  obtain ⟨_,_,H2,c2,ar,ah,rfl,rfl⟩:=(abX z a s  y1 Fm).code
  have cl:H1.n+0≤H2.n:=ar.n
  have Fp:=y1.kept ar ai Fm
  obtain ⟨bk,aM⟩:∃ ao,ao=H2.set z (O [.string ⟨#[]⟩,.string ⟨#[]⟩] 184):=⟨_,rfl⟩
  have az:aa E G bk:=aM▸ah.set _ D D
  exact ad 3 c1<|bW 6 c2<|eL 3 (show w8 E #[180] (sc z 0 1 4) H2=some (cZ,bk,[z],[z]) from (Wq (n:=0) (cs':=[.string ⟨#[]⟩,.string ⟨#[]⟩]) rfl ah4 ai2 Fp rfl rfl).trans (by rw [aM]))<|aV 4 (sc z 0 0 4) bk [z] bD bi (.inr ⟨rfl,he⟩)
 have Fm:=y.kept af ai i8
 exact ad 3 c1<|aV 5 (sc z 0 1 4) H1 [] aZ bi (.inl ⟨rfl,Fm,he⟩)
noncomputable def Ok:Code:=cN [1,0,1,0,0] (cH Tryz.f157)
theorem abZ (z:Nat) (a:ByteArray) (s:ByteArray) (R:Bool)  {H:U} (y:aa E G H) (i8:H.get z=some (O (ga a s) 184)) (ha:(a.size:Int)<1000) (hR:R=true):cy E G 39 Ok [(0,sc z 0 1 4),(5,sc z 0 1 4),(6,J 1),(7,J 1)] H [] (fun x T H'=>(x=(.exit 0)∧T=bl [(0,sc z 0 1 4)]∧(R=true))∨(x=.ret∧T=bl [(2,Y)]∧(R=false))):=by
 refine c9 y ?_
 exact dF 1 [(0,sc z 0 1 4)] (.exit 0) H (.inl ⟨rfl,rfl,hR⟩)
noncomputable abbrev CI H:=news H [O [.string ⟨#[]⟩,.string ⟨#[]⟩] 184]
theorem abY (z:Nat) (a:ByteArray) (s:ByteArray) (R:Bool)  {H:U} (y:aa E G H) (i8:H.get z=some (O (ga a s) 184)) (ha:(a.size:Int)<1000) (hR:x7 a s=R):cy E G 39 Ok [(0,sc z 0 1 4),(5,sc z 0 1 4),(6,J 1),(7,J 0)] H [] (fun x T H'=>(x=(.exit 0)∧T=bl [(0,sc z 0 1 4)]∧(R=true))∨(x=.ret∧T=bl [(2,Y)]∧(R=false))):=by
 refine c9 y ?_
 cases h1:(oJ a s) with
 |true=>
  rcases ep (s.toList==(⟨#[]⟩:ByteArray).toList) with h2 |h2
  ·exact Z 3 (cg rc oc i8 rfl rfl:ay E 184 z 0 H=some (.agg (ga a s).toArray))<|aC 2 (bT oc rfl rfl rfl rfl:bp E 184 (H.n+0) 0 (.agg (ga a s).toArray) (CI H)=some (jQ H a s))<|Z 0 (dy rc oc rfl rfl rfl:ay E 184 (H.n+0) 0 (jQ H a s)=some (.agg (ga a s).toArray))<|ad 0 (c5 h1 (Cm a s ha (y.news (lD (ga a s)))))<|Z 3 (aR (jQ H a s) 0 1 ct)<|aH 0 h2<|en 4 [(2,Y)] .ret (jQ H a s) [H.n+0] aQ aZ (.inr ⟨rfl,rfl,(by rw [← hR,x7,h1,show pr s=true from h2] <;> rfl)⟩)
  exact Z 3 (cg rc oc i8 rfl rfl:ay E 184 z 0 H=some (.agg (ga a s).toArray))<|aC 2 (bT oc rfl rfl rfl rfl:bp E 184 (H.n+0) 0 (.agg (ga a s).toArray) (CI H)=some (jQ H a s))<|Z 0 (dy rc oc rfl rfl rfl:ay E 184 (H.n+0) 0 (jQ H a s)=some (.agg (ga a s).toArray))<|ad 0 (c5 h1 (Cm a s ha (y.news (lD (ga a s)))))<|Z 3 (aR (jQ H a s) 0 1 ct)<|aH 0 h2<|dY 9 [(0,sc z 0 1 4),(5,sc z 0 1 4),(6,J 1),(7,J 1)] (jQ H a s) [H.n+0] aQ (abZ z a s R  (y.news (lD (ga a s))) (y.old i8 (lD (ga a s))) ha (by rw [← hR,x7,h1,show pr s=false from h2] <;> rfl))
 |false=>
  exact Z 3 (cg rc oc i8 rfl rfl:ay E 184 z 0 H=some (.agg (ga a s).toArray))<|aC 2 (bT oc rfl rfl rfl rfl:bp E 184 (H.n+0) 0 (.agg (ga a s).toArray) (CI H)=some (jQ H a s))<|Z 0 (dy rc oc rfl rfl rfl:ay E 184 (H.n+0) 0 (jQ H a s)=some (.agg (ga a s).toArray))<|ad 0 (c5 h1 (Cm a s ha (y.news (lD (ga a s)))))<|en 6 [(2,Y)] .ret (jQ H a s) [H.n+0] aQ aZ (.inr ⟨rfl,rfl,(by rw [← hR,x7,h1] <;> rfl)⟩)
theorem ab7 (z:Nat) (a:ByteArray) (s:ByteArray) {H:U} (y:aa E G H) (i8:H.get z=some (O [.string a,.string s] 184)) (ha:(a.size:Int)<1000):aI E G 157 [sc z 0 1 4] H [] (fun v H'=>v=.bool (x7 a s)):=by
 refine br Tryz.f157 y ?_
 obtain ⟨_,_,H1,c1,af,y1,b7⟩:=(abY z a s (x7 a s)  y i8 ha rfl).code
 rcases b7 with ⟨rfl,rfl,cM⟩ |⟨rfl,rfl,cM⟩
 ·exact bW 4 c1<|al 4 aN H1 (by rw [cM])
 exact bW 4 c1<|al 0 Y H1 (by rw [cM])
noncomputable def Wp:Code:=cN [1,0,1,0,0] (cH Tryz.f157)
theorem ab0 (z:Nat)  {H:U} (y:aa E G H):cy E G 39 Wp [(0,sc z 0 0 4),(5,sc z 0 0 4),(6,J 0),(7,J 0)] H [] (fun x T H'=>(x=(.exit 0)∧T=bl [(0,sc z 0 0 4)])):=by
 refine c9 y ?_
 exact dF 1 [(0,sc z 0 0 4)] (.exit 0) H ⟨rfl,rfl⟩
theorem ab6 (z:Nat) {H:U} (y:aa E G H):aI E G 157 [sc z 0 0 4] H [] (fun v H'=>v=aN):=by
 refine br Tryz.f157 y ?_
 obtain ⟨_,_,H1,c1,af,y1,rfl,rfl⟩:=(ab0 z  y ).code
 exact bW 4 c1<|al 4 aN H1 rfl
noncomputable def Oj:Code:=cN [1,1,1,0,1,0,0] (cH Tryz.f118)
theorem abW (z:Nat) (a:ByteArray) (s:ByteArray) (R:Bool)  {H:U} (y:aa E G H) (i8:H.get z=some (O (ga a s) 184)) (ha:(a.size:Int)<1000) (hR:R=true):cy E G 45 Oj [(4,sc z 0 1 4),(11,sc z 0 1 4),(12,J 1),(13,J 1)] H [] (fun x T H'=>(x=(.exit 0)∧T=bl [(4,sc z 0 1 4)]∧(R=true))∨(x=.ret∧T=bl [(2,.slice none 0 0),(3,.iface 40 (J 1))]∧(R=false))):=by
 refine c9 y ?_
 exact dF 1 [(4,sc z 0 1 4)] (.exit 0) H (.inl ⟨rfl,rfl,hR⟩)
theorem abV (z:Nat) (a:ByteArray) (s:ByteArray) (R:Bool)  {H:U} (y:aa E G H) (i8:H.get z=some (O (ga a s) 184)) (ha:(a.size:Int)<1000) (hR:oJ a s=R):cy E G 45 Oj [(4,sc z 0 1 4),(11,sc z 0 1 4),(12,J 1),(13,J 0)] H [] (fun x T H'=>(x=(.exit 0)∧T=bl [(4,sc z 0 1 4)]∧(R=true))∨(x=.ret∧T=bl [(2,.slice none 0 0),(3,.iface 40 (J 1))]∧(R=false))):=by
 refine c9 y ?_
 cases h1:(oJ a s) with
 |true=>
  exact Z 3 (cg rc oc i8 rfl rfl:ay E 184 z 0 H=some (.agg (ga a s).toArray))<|aC 2 (bT oc rfl rfl rfl rfl:bp E 184 (H.n+0) 0 (.agg (ga a s).toArray) (CI H)=some (jQ H a s))<|Z 0 (dy rc oc rfl rfl rfl:ay E 184 (H.n+0) 0 (jQ H a s)=some (.agg (ga a s).toArray))<|ad 0 (c5 h1 (Cm a s ha (y.news (lD (ga a s)))))<|dY 9 [(4,sc z 0 1 4),(11,sc z 0 1 4),(12,J 1),(13,J 1)] (jQ H a s) [H.n+0] aQ (abW z a s R  (y.news (lD (ga a s))) (y.old i8 (lD (ga a s))) ha (hR.symm.trans h1))
 |false=>
  exact Z 3 (cg rc oc i8 rfl rfl:ay E 184 z 0 H=some (.agg (ga a s).toArray))<|aC 2 (bT oc rfl rfl rfl rfl:bp E 184 (H.n+0) 0 (.agg (ga a s).toArray) (CI H)=some (jQ H a s))<|Z 0 (dy rc oc rfl rfl rfl:ay E 184 (H.n+0) 0 (jQ H a s)=some (.agg (ga a s).toArray))<|ad 0 (c5 h1 (Cm a s ha (y.news (lD (ga a s)))))<|en 6 [(2,.slice none 0 0),(3,.iface 40 (J 1))] .ret (jQ H a s) [H.n+0] aQ aZ (.inr ⟨rfl,rfl,hR.symm.trans h1⟩)
theorem ab5 (q:Nat) (a:ByteArray) (s:ByteArray) {H:U} (y:aa E G H) (aX:H.get q=some (O [.string a,.string s] 184)) (ha:(a.size:Int)<1000):aI E G 118 [sc q 0 1 3] H [] (fun v H'=>(∃ v1,v=.tuple #[v1,.nilIface]∧oJ a s=true)∨(∃ v1,v=.tuple #[v1,.iface 40 (J 1)]∧oJ a s=false)):=by
 have g0:=y.n
 refine br Tryz.f118 y ?_
 obtain ⟨_,H1,c1,af,y1,z,rfl,hz,i8⟩:=ab4 q a s y aX
 have akh:=y1.wf.lt i8
 obtain ⟨_,H2,c2,ar,ah,rfl⟩:=agY z y1
 have cl:H1.n+0≤H2.n:=ar.n
 have Fp:=y1.kept ar ai i8
 obtain ⟨_,_,H3,c3,aW,az,fo⟩:=(abV z a s (oJ a s)  ah Fp ha rfl).code
 refine ad 3 c1<|ad 2 c2<|?_
 rcases fo with ⟨rfl,rfl,kD⟩ |⟨rfl,rfl,kD⟩
 ·have dD:H2.n+0≤H3.n:=aW.n
  have abj:=ah.kept aW ai Fp
  obtain ⟨_,H4,cY,c4,bz,nv⟩:=XA z a s az abj D
  refine bW 3 c3<|?_
  rcases nv with ⟨rfl,Ck,he⟩ |⟨rfl,he⟩
  ·have fB:H3.n+0≤H4.n:=c4.n
   obtain ⟨_,H5,dz,cV,cG,oN⟩:=fh (ab7 z a s bz Ck ha)
   refine ad 1 cY<|?_
   rcases oN with ⟨rfl,hb⟩ |⟨rfl,hb⟩
   ·have gk:H4.n+0≤H5.n:=cV.n
    exact ad 2 dz<|aV 4 (.tuple #[sc z 0 1 4,.nilIface]) H5 [z] aQ aZ (.inl ⟨_,rfl,kD⟩)
   have gk:H4.n+0≤H5.n:=cV.n
   exact ad 2 dz<|aV 4 (.tuple #[.slice none 0 0,.iface 40 (J 1)]) H5 [z] aQ aZ (absurd hb (by rw [x7,show oJ a s=true from kD,he];decide))
  have fB:H3.n+0≤H4.n:=c4.n
  obtain ⟨_,H5,dz,cV,cG,rfl⟩:=ab6 z bz
  have gk:H4.n+0≤H5.n:=cV.n
  exact ad 1 cY<|ad 2 dz<|aV 4 (.tuple #[sc z 0 0 4,.nilIface]) H5 [z] aQ aZ (.inl ⟨_,rfl,kD⟩)
 exact bW 3 c3<|al 0 (.tuple #[.slice none 0 0,.iface 40 (J 1)]) H3 (.inr ⟨_,rfl,kD⟩)
noncomputable abbrev y2 s:=([.string ⟨#[97]⟩,.string s]:List Value)
theorem acX (s:ByteArray) {H:U} (y:aa E G H):aI E G 95 [.string s] H [] (fun v H'=>v=(.bool (lG s))):=by
 refine br Tryz.f95 y ?_
 obtain ⟨_,H1,c1,af,y1,b7⟩:=ab5 (H.n+0) ⟨#[97]⟩ s (y.news (lD (y2 s))) (aL (lD (y2 s)) H 0 _ rfl) (by decide)
 rcases b7 with ⟨v1,rfl,hm⟩ |⟨v1,rfl,hm⟩
 ·have cI:=dA af
  have g1:=y1.n
  have aP:=(y.news (lD (y2 s))).kept af ai (aL (lD (y2 s)) H 0 _ rfl)
  exact ad 4 c1<|al 8 aN H1 (by rw [oJ,KS] at hm;exact congrArg Value.bool hm.symm)
 have cI:=dA af
 have g1:=y1.n
 have aP:=(y.news (lD (y2 s))).kept af ai (aL (lD (y2 s)) H 0 _ rfl)
 exact ad 4 c1<|al 8 Y H1 (by rw [oJ,KS] at hm;exact congrArg Value.bool hm.symm)
theorem QK (s:ByteArray):∀{H:U},aa E G H→bE E 95 [.string s] H (.ret (.bool (lG s))) H []:=by
 obtain ⟨_,_,c,_,_,rfl⟩:=acX s gE
 exact fun y=>gx (iP rfl) (.ground rfl) c y
def ajk (bs:List Int):List Value:=bs.map fun n=>.int .u8 n
def ai7 (bs:List Int):Prop:=∀ x∈bs,0≤x∧x<256
theorem cy.adx {E:Env} {G H H1:U} {aq:Nat} {c:Code} {pre mid:List (Tmp×Value)} {V W V':List Nat} {Q:eY→b5→U→Prop} (y:aa E G H) (h:c7 E aq c (bl pre) H [] .normal (bl mid) H1 [] W) (hw:∀ q∈W,q∈V∨(H.n≤q∧q<H1.n)) (hv:∀ q∈V',q∈V∨(H.n≤q∧q<H1.n)) (k:cy E G aq c mid H1 V' Q):cy E G aq c pre H V Q:=by
 have h':=h.post (lK.refl _) hw
 obtain ⟨hx,wf,_⟩:=h' y.wf y.vW
 obtain ⟨n,x,T,H',h1,h2,h3,h4⟩:=k
 have hn':=h2.n
 have key:∀ q∈V++V',q∈V∨(H.n≤q∧q<H'.n):=fun q hq=>by
  rcases List.mem_append.1 hq with hq |hq
  ·exact .inl hq
  ·rcases hv q hq with hq |hq
   ·exact .inl hq
   ·exact .inr ⟨hq.1,D⟩
 refine ⟨n+1,x,T,H',(oh.next h' h1).post (lK.refl _) key,⟨(hx.trans h2).n,fun i hi hn=>(hx.trans h2).keep i hi fun hm=>?_,(hx.trans h2).live,(hx.trans h2).fG⟩,h3,h4⟩
 rcases key i hm with h5 |h5
 ·exact hn h5
 ·omega
theorem kW {pre:List Hint→List Hint} {C:Prop→Prop} {G H:U} {V:List Nat} {aq:Nat} {c:Code} {fX:List (Tmp×Value)} {Q:eY→b5→U→Prop} (n:Nat) (post:List (Tmp×Value)) (H':U) (W:List Nat) {V':List Nat} (hw:∀ q∈W,q∈V∨(H.n≤q∧q<H'.n)) (hv:∀ q∈V',q∈V∨(H.n≤q∧q<H'.n)) (k:cy E G aq c post H' V' Q) (h:(qm E aq 300 c fX post H (pre (i6 n []))).map (fun r=>(fU r.1,r.2))=some (C (uA post),.normal,H',W):=by kernel_rfl):eK pre C (yO aq c G fX H V Q):=
 fun hc y=>cy.adx y (c7.qV ok (hc _ (Ds _)) h) hw hv k
def Hs (ts:List (Int×Int×ByteArray)):List Value:=ts.flatMap fun x=>[.int .i64 x.1,.int .i64 x.2.1,.string x.2.2]
theorem pM {α β:Type} {P:Program} {s:Sem α} {f:α→Sem β} {a:α} (h:e3 P s=some a):e3 P (s >>= f)=e3 P (f a):=LH h
noncomputable def Hw:Array Field:=match e3 E.P (underlying 154) with |some (.struct fs)=>fs |_=>#[]
noncomputable def AK (i:Nat):Field:=(Hw.toList[i]?).getD default
theorem ahJ:Hw=#[AK 0,AK 1,AK 2]:=av
def zr (xs ys:Array Value) (f:Field) (s:Option Bool×Unit):Sem (ForInStep (Option Bool×Unit)):=
 if f.name≠ "_" then do
  let a ← part f.type xs f.offset
  let b ← part f.type ys f.offset
  let r ← Op.equalIn 9999 f.type a b
  if (!r)=true then pure (ForInStep.done (some false,())) else pure (ForInStep.yield (none,()))
 else pure (ForInStep.yield (none,()))
theorem zu {xs ys:Array Value} {f:Field} {a b:Value} {r:Bool} {s:Option Bool×Unit} (hn:decide (f.name= "_")=false) (ha:e3 E.P (part f.type xs f.offset)=some a) (hb:e3 E.P (part f.type ys f.offset)=some b) (hr:e3 E.P (Op.equalIn 9999 f.type a b)=some r) :
  e3 E.P (zr xs ys f s)=some (bif r then .yield (none,()) else .done (some false,())):=by
 unfold zr
 rw [if_pos (gl hn),pM ha,pM hb,pM hr]
 cases r <;> rfl
theorem I7 {xs ys:Array Value}:∀(fs:List (Field×Bool)),(∀ f∈fs,∀ s,e3 E.P (zr xs ys f.1 s)=some (bif f.2 then .yield (none,()) else .done (some false,())))→
  e3 E.P (forIn (fs.map (·.1)) ((none:Option Bool),()) (zr xs ys))=some (bif fs.all (·.2) then none else some false,())
 |[],_=>rfl
 |f::fs,h=>by
  rw [List.map_cons,List.forIn_cons,pM (h f bD (none,())),List.all_cons]
  cases hf:f.2 with
  |false=>rfl
  |true=>exact I7 fs fun f hf=>h f (List.mem_cons_of_mem _ hf)
theorem NU {t s:ByteArray}:(t==s)=true↔t=s:=⟨fun h=>by cases t;cases s;exact congrArg _ (pu h),fun h=>by subst h;exact (beq_self_eq_true t.data:(t.data==t.data)=true)⟩
def yf (k a:Int) (t s:ByteArray):Bool:=(k==1)&&((a==0)&&((t==s)&&true))
theorem ahK {k a:Int} {t s:ByteArray}:yf k a t s=true↔(k,a,t)=(1,0,s):=by
 simp only [yf,Bool.and_true,dI,NU,beq_iff_eq,bG]
noncomputable abbrev Bl s:=([.int .i64 1,.int .i64 0,.string s]:List Value)
theorem ahI (k a:Int) (t s:ByteArray):e3 E.P (Op.equalIn (9999+1) 154 (.agg #[.int .i64 k,.int .i64 a,.string t]) (.agg (Bl s).toArray))=some (yf k a t s):=by
 rw [Op.equalIn]
 rw [pM (a:=.struct Hw) av]
 simp only []
 rw [pM (a:=E.P) (by rfl)]
 rw [if_neg (by rw [show E.P.stoodInHeld 154=false by kernel_rfl];simp)]
 have hq:=I7 (xs:=#[.int .i64 k,.int .i64 a,.string t]) (ys:=#[.int .i64 1,.int .i64 0,.string s]) [(AK 0,k==1),(AK 1,a==0),(AK 2,t==s)] (by
  intro f hf st
  simp only [List.mem_cons,ai,or_false] at hf
  rcases hf with rfl |rfl |rfl
  ·exact zu (a:=.int .i64 k) (b:=.int .i64 1) av av av av
  ·exact zu (a:=.int .i64 a) (b:=.int .i64 0) av av av av
  ·exact zu (a:=.string t) (b:=.string s) av av av av)
 have pD:e3 E.P (forIn Hw ((none:Option Bool),()) (zr #[.int .i64 k,.int .i64 a,.string t] #[.int .i64 1,.int .i64 0,.string s]))=some (bif yf k a t s then none else some false,()):=by
  rw [ahJ,← Array.forIn_toList];exact hq
 refine (pM pD).trans ?_
 cases yf k a t s <;> rfl
theorem ahH (k a:Int) (t s:ByteArray):EF E .eql 154 (.tmp 33) (.tmp 35) (.agg #[.int .i64 k,.int .i64 a,.string t]) (.agg (Bl s).toArray)=some (.bool (yf k a t s)):=by
 have h:e3 E.P (do eqGuard .eql 154 (.tmp 33) (.tmp 35) (.agg #[.int .i64 k,.int .i64 a,.string t]) (.agg (Bl s).toArray);binOp .eql 154 (.agg #[.int .i64 k,.int .i64 a,.string t]) (.agg (Bl s).toArray))=some (.bool (yf k a t s)):=by
  rw [pM (a:=()) av]
  exact (pM (ahI k a t s)).trans rfl
 show (match e3 E.P _ with |some v=>bif ground v then some v else none |none=>none)=_
 rw [h];rfl
def qr (l:List Value):List ByteArray:=l.filterMap fun v=>match v with |.string s=>some s |_=>none
noncomputable def hU (s:ByteArray):Bool:=!decide ((s.size:Int)>200)&&(!hasB s (qr pz)&&(!hasB s (qr t9)&&isWord s))
noncomputable def V7:Code:=cN [1,0,1,0,0] (cH Tryz.f99)
theorem YO (q:Nat) (ws:List ByteArray) (c:Nat) (s:ByteArray) (R:Bool):∀(m:Nat) (cx:Int) (H:U),aa E G H→(aX:H.get q=some (O (eH ws) 9))→(hl:ws.length<100000)→(x0:0≤cx)→(hR:hasB s (ws.drop cx.toNat)=R)→((ws.length:Int)-cx).toNat=m→
  cy E G 19 V7 [(0,sc q 0 ws.length c),(1,.string s),(7,J (ws.length:Int)),(8,J cx)] H [] (fun x T H'=>(x=(.exit 0)∧T=bl []∧(R=false))∨(x=.ret∧∃(gD:Int),T=bl [(4,J gD)]∧((R=true)∧(0≤gD)))):=by
 refine d8 fun m ih=>?_
 intro cx H y aX hl x0 hR hm
 refine c9 y ?_
 refine aO 0 (cx<(ws.length:Int)) ?_ ?_ <;> intro h1 q1
 ·obtain ⟨jr,sV,lX⟩:=yr (ws:=ws) (i:=cx.toNat) D
  refine bR 5 cx (ws.length:Int)<|Z 0 (show ay E 9 q (0+cx.toNat*1) H=some (.string jr) from d7 ct aX (show (eH ws)[0+cx.toNat*1]?=_ by rw [show 0+cx.toNat*1=cx.toNat by omega];exact lX))<|oS 0 (s.toList==jr.toList) (fun h2=>?_) fun h2=>?_
  ·exact dF 2 [(4,J cx)] .ret H (.inr ⟨rfl,cx,rfl,⟨vf (F:=hasB s) (g:=fun w=>s.toList==w.toList) (fun _ _=>rfl) sV hR h2,D⟩⟩)
  exact ap 0 (cx+1)<|dU 1 [(0,sc q 0 ws.length c),(1,.string s),(7,J (ws.length:Int)),(8,J (cx+1))] H (ih _ D (cx+1) _ y aX hl D (by rw [fR D];exact (vg (F:=hasB s) (g:=fun w=>s.toList==w.toList) (fun _ _=>rfl) sV hR h2)) rfl)
 exact dF 0 [] (.exit 0) H (.inl ⟨rfl,rfl,ve (F:=hasB s) rfl hR D⟩)
theorem YN (q:Nat) (ws:List ByteArray) (c:Nat) (s:ByteArray) {H:U} (y:aa E G H) (aX:H.get q=some (O (eH ws) 9)) (hl:ws.length<100000):aI E G 99 [sc q 0 ws.length c,.string s] H [] (fun v H'=>(∃ n:Int,v=J n∧0≤n∧hasB s ws=true)∨(v=J (-1)∧hasB s ws=false)):=by
 refine br Tryz.f99 y ?_
 obtain ⟨_,_,H1,c1,af,y1,b7⟩:=(YO q ws c s (hasB s ws) _ 0 _ y aX hl D rfl rfl).code
 rcases b7 with ⟨rfl,rfl,cM⟩ |⟨rfl,ck,rfl,cM,lE⟩
 ·exact bW 4 c1<|al 1 (J (-1)) H1 (.inr ⟨rfl,cM⟩)
 exact bW 4 c1<|al 0 (J ck) H1 (.inl ⟨_,rfl,lE,cM⟩)
theorem Jt (q:Nat) (ws:List ByteArray) (c:Nat) (s:ByteArray) {H:U} (y:aa E G H) (aX:H.get q=some (O (eH ws) 9)) (hl:ws.length<100000):aI E G 73 [sc q 0 ws.length c,.string s] H [] (fun v H'=>v=.bool (hasB s ws)):=by
 refine br Tryz.f73 y ?_
 obtain ⟨_,H1,c1,af,y1,b7⟩:=YN q ws c s y aX hl
 rcases b7 with ⟨yt,rfl,pE,cq⟩ |⟨rfl,cq⟩
 ·exact ad 3 c1<|aH 0 (decide_eq_true D:(decide (yt≥0))=true)<|al 1 aN H1 (by rw [cq])
 exact ad 3 c1<|al 2 Y H1 (by rw [cq])
theorem Po  {H:U} (y:aa E G H):aI E G 74 [] H [] (fun v H'=>∃ q,v=sc q 0 7 15∧H.n≤q∧H'.get q=some (O pz 9)):=by
 refine br Tryz.f74 y ?_
 exact ad 1 (Yy y)<|al 1 (sc (H.n+0) 0 7 15) (news H [O pz 9]) ⟨_,rfl,D,aL [O pz 9] H 0 _ rfl⟩
theorem Ux:nO E #[150,150] 154 3 32=true:=av
theorem DK {s:ByteArray} (h:isWord s=true):0<(s.size:Int)∧gJ (ac s 0)=true∧jD ii s 0=s:=by
 rw [isWord,dI,dI,decide_eq_true_eq,beq_iff_eq] at h
 refine ⟨h.1,h.2.1,?_⟩
 rw [jD,h.2.2,show (0:Int).toNat=0 from rfl,show ((s.size:Int)).toNat=s.size by omega]
 exact ByteArray.extract_zero_size
noncomputable abbrev na s:=([.string s,J 0]:List Value)
theorem ack {s:ByteArray} (h:isWord s=true) (hs:(s.size:Int)<100000):∀{H:U},aa E G H→bE E 120 [.agg (na s).toArray] H (.ret (J 0)) H []:=by
 obtain ⟨h0,hl,_⟩:=DK h
 obtain ⟨n,hn,c⟩:=acj s 0 hs D h0
 rw [hn.2.2 hl] at c
 exact c
theorem acs {s:ByteArray} (h:isWord s=true) (hs:(s.size:Int)<100000):∃ a:Int,∀{H:U},aa E G H→bE E 164 [.agg (na s).toArray] H (.ret (.tuple #[.agg #[J 1,J a,.string s],J (s.size:Int)])) H []:=by
 obtain ⟨h0,hl,hw⟩:=DK h
 obtain ⟨k,a,t,n,⟨_,_,ht⟩,c⟩:=acr s 0 hs D h0
 rcases ht with ⟨_,rfl,rfl,rfl,_⟩ |⟨hf,_⟩
 ·rw [hw] at c
  exact ⟨a,c⟩
 ·rw [hl] at hf;cases hf
noncomputable def Wt:Code:=cN [1,0,1,0,0] (cH Tryz.f121)
noncomputable abbrev ip s:=([J 1,J 0,.string s]:List Value)
noncomputable abbrev CQ H s:=news H (C0 (ip s))
noncomputable abbrev Bk:=([bQ 164,bQ 165,bQ 166,bQ 167]:List Value)
theorem acH (b:Nat) (b2:Nat) (q:Nat) (s:ByteArray)  {H:U} (y:aa E G H) (kb:H.get b=some (O (na s) 190)) (kt:H.get b2=some (O or 154)) (abw:H.get q=some (O Bk 260)) (hs:(s.size:Int)<100000) (hw:isWord s=true) (ajz:G.n≤b2) (d1:b≠b2) (d2:q≠b2):cy E G 29 Wt [(1,pt b 0),(2,pt b2 0),(8,sc q 0 4 9),(9,J 4),(10,J 0)] H [b2] (fun x T H'=>(x=.ret∧∃(o7:Int),T=bl [(2,pt b2 0),(3,J o7)]∧(H'.get b2=some (O (Bl s) 154)∧o7=(s.size:Int)))):=by
 refine c9 y ?_
 have ake:=y.wf.lt kt
 obtain ⟨q7,ZQ⟩:=acs hw hs
 obtain ⟨aS,e1⟩:∃ ao,ao=(CQ H s).set b2 (O (ip s) 154):=⟨_,rfl⟩
 have y1:aa E G aS:=e1▸(y.news (C0 (ip s))).set _ D (by rw [bU];simp only [cj,cF];omega)
 have cI:aS.n=H.n+1:=by rw [e1,U.cB,bU] <;> rfl
 have abe:=bC e1
 exact Z 2 (ag 0 UF abw)<|Z 2 (cg Ig Hq kb rfl rfl:ay E 190 b 0 H=some (.agg (na s).toArray))<|ad 0 (ZQ y)<|aC 4 (bT yd rfl rfl rfl rfl:bp E 154 (H.n+0) 0 (.agg #[J 1,J q7,.string s]) (news H (C0 or))=some (news H [O [J 1,J q7,.string s] 154]))<|aH 2 (decide_eq_true (DK hw).1:(decide ((s.size:Int)>0))=true)<|Z 1 (ag 1 aJ (y.old kb [O [J 1,J q7,.string s] 154]))<|aC 1 (bT dL rfl rfl rfl rfl:bp E 3 (H.n+0) 1 (J 0) (news H [O [J 1,J q7,.string s] 154])=some (CQ H s))<|Z 0 (dy D6 yd rfl rfl rfl:ay E 154 (H.n+0) 0 (CQ H s)=some (.agg (ip s).toArray))<|aC 1 (stx 0 (.agg (ip s).toArray) yd (y.old kt (C0 (ip s))) e1)<|en 1 [(2,pt b2 0),(3,J (s.size:Int))] .ret aS [H.n+0,H.n+0,b2] aQ bi ⟨rfl,(s.size:Int),rfl,⟨abe,rfl⟩⟩
theorem acq (s:ByteArray) {H:U} (y:aa E G H) (hs:(s.size:Int)<100000) (hw:isWord s=true):aI E G 121 [.agg (na s).toArray] H [] (fun v H'=>v=(.tuple #[.agg (ip s).toArray,J (s.size:Int)])):=by
 have g0:=y.n
 refine br Tryz.f121 y ?_
 obtain ⟨_,_,H1,c1,af,y1,rfl,mr,rfl,abN,cM⟩:=(acH (H.n+0) (H.n+1) (H.n+2) s (y.news [O (na s) 190,O or 154,O Bk 260]) (aL [O (na s) 190,O or 154,O Bk 260] H 0 _ rfl) (aL [O (na s) 190,O or 154,O Bk 260] H 1 _ rfl) (aL [O (na s) 190,O or 154,O Bk 260] H 2 _ rfl) hs hw D D D).code
 have cI:=CF af
 exact bW 6 c1<|eM [] ((cg D6 yd abN rfl rfl):ay E 154 (H.n+1) 0 H1=some (.agg (ip s).toArray)) (r5 (J mr))<|gM 0 [.agg (ip s).toArray,J mr] (.tuple #[.agg (ip s).toArray,J mr]) H1 [H.n+1] aQ aZ (by rw [cM])
theorem acp (s:ByteArray) (hs:(s.size:Int)<100000) (hw:isWord s=true):∀{H:U},aa E G H→bE E 121 [.agg (na s).toArray] H (.ret (.tuple #[.agg (ip s).toArray,J (s.size:Int)])) H []:=by
 obtain ⟨_,_,c,_,_,rfl⟩:=acq s gE hs hw
 exact fun y=>gx (iP rfl) (TJ _ _ _ _) c y
noncomputable def Ws:Code:=cN [1,1,1,1,0,0,0] (cH Tryz.f97)
theorem aci (b:Nat) (q:Nat) (s:ByteArray)  {H:U} (y:aa E G H) (kb:H.get b=some (O [.string s,J (s.size:Int)] 190)) (aX:H.get q=some (O (Hs ([(1,0,s)])) 154)) (hs:(s.size:Int)<100000) (hw:isWord s=true) (cr:G.n≤b):cy E G 52 Ws [(0,.string s),(4,sc q 0 1 6),(5,pt b 0)] H [b] (fun x T H'=>(x=(.exit 0)∧∃(qv:Nat),T=bl [(4,sc qv 0 1 6)]∧(H'.get qv=some (O (Hs [(1,0,s)]) 154)))):=by
 refine c9 y ?_
 exact Z 1 (ag 1 aJ kb)<|aH 2 (decide_eq_false D:(decide ((s.size:Int)<(s.size:Int)))=false)<|en 0 [(4,sc q 0 1 6)] (.exit 0) H [] aZ bi ⟨rfl,q,rfl,aX⟩
noncomputable def Wr:Code:=cN [1,1,1,1,0,0,0] (cH Tryz.f97)
noncomputable abbrev Rg H s:=news H [O (ip s) 154,O (ip s) 154,O (ip s) 154]
noncomputable abbrev Rh H s:=news H [O (ip s) 154,O (ip s) 154]
theorem ach (b:Nat) (s:ByteArray)  {H:U} (y:aa E G H) (kb:H.get b=some (O (na s) 190)) (hs:(s.size:Int)<100000) (hw:isWord s=true) (cr:G.n≤b):cy E G 52 Wr [(0,.string s),(4,.slice none 0 0),(5,pt b 0)] H [b] (fun x T H'=>(x=(.exit 0)∧∃(qv:Nat),T=bl [(4,sc qv 0 1 6)]∧(H'.get qv=some (O (Hs [(1,0,s)]) 154)))):=by
 refine c9 y ?_
 have zO:=y.wf.lt kb
 have w1:((J (IntKind.i64.wrap (0+(s.size:Int)))):Value)=(J (s.size:Int)):=(by rw [Int.zero_add,kX D D])
 obtain ⟨aS,e1⟩:∃ ao,ao=(Rg H s).set b (O [.string s,J (s.size:Int)] 190):=⟨_,rfl⟩
 have y1:aa E G aS:=e1▸(y.news [O (ip s) 154,O (ip s) 154,O (ip s) 154]).set _ D (by rw [bU];simp only [cj,cF];omega)
 have cI:aS.n=H.n+3:=by rw [e1,U.cB,bU] <;> rfl
 have mG:=bu e1 D (aL [O (ip s) 154,O (ip s) 154,O (ip s) 154] H 2 _ rfl)
 have fP:=bC e1
 exact Z 1 (ag 1 aJ kb)<|aH 2 (decide_eq_true (DK hw).1:(decide (0<(s.size:Int)))=true)<|Z 0 (cg Ig Hq kb rfl rfl:ay E 190 b 0 H=some (.agg (na s).toArray))<|ad 0 (ack hw hs y)<|Z 3 (cg Ig Hq kb rfl rfl:ay E 190 b 0 H=some (.agg (na s).toArray))<|ad 0 (acp s hs hw y)<|aC 4 (bT yd rfl rfl rfl rfl:bp E 154 (H.n+0) 0 (.agg (ip s).toArray) (news H (C0 or))=some (CQ H s))<|aH 2 (show ((s.size:Int)==0)=false from beq_eq_false_iff_ne.2 (by have:=(DK hw).1;omega))<|Z 1 (dy D6 yd rfl rfl rfl:ay E 154 (H.n+0) 0 (CQ H s)=some (.agg (ip s).toArray))<|eL 1 (show eW E #[150,150] (.slice none 0 0) (sc (H.n+1) 0 1 3) (Rh H s)=some (sc (H.n+2) 0 1 6,Rg H s,[],[H.n+1]) from wX Ux rfl (show hG (Rh H s) 3 (sc (H.n+1) 0 1 3)=some (1,[J 1,J 0,.string s],[H.n+1]) from gt (aL [O (ip s) 154,O (ip s) 154] H 1 _ rfl) (ec rfl)) rfl (by decide) (by decide))<|Z 2 (ag 1 aJ (y.old kb [O (ip s) 154,O (ip s) 154,O (ip s) 154]))<|aK [aB 0]<|aj [.as (J (s.size:Int))] w1<|aC 1 (stx 1 (J (s.size:Int)) dL (y.old kb [O (ip s) 154,O (ip s) 154,O (ip s) 154]) e1)<|dY 0 [(0,.string s),(4,sc (H.n+2) 0 1 6),(5,pt b 0)] aS [H.n+0,b] aQ (aci b (H.n+2) s  y1 fP mG hs hw cr)
theorem aco (s:ByteArray) {H:U} (y:aa E G H) (hs:(s.size:Int)≤200) (hw:isWord s=true):aI E G 97 [.string s] H [] (fun v H'=>∃ q,v=.tuple #[sc q 0 1 6,.nilIface]∧H'.get q=some (O (Hs [(1,0,s)]) 154)):=by
 have g0:=y.n
 refine br Tryz.f97 y ?_
 obtain ⟨_,_,H1,c1,af,y1,rfl,wN,rfl,Cl⟩:=(ach (H.n+0) s (y.news (mQ (na s))) (aL (mQ (na s)) H 0 _ rfl) D hw D).code
 have cI:=dA af
 exact aH 4 (decide_eq_false D:(decide ((s.size:Int)>4000))=false)<|aC 4 (bT Hq rfl rfl rfl rfl:bp E 190 (H.n+0) 0 (.agg (na s).toArray) (news H [O [.string ⟨#[]⟩,J 0] 190])=some (news H (mQ (na s))))<|bW 0 c1<|aV 3 (.tuple #[sc wN 0 1 6,.nilIface]) H1 [H.n+0,H.n+0] aQ aZ ⟨_,rfl,Cl⟩
theorem Qb {X:U} {g:FuncId} {args:List Value} {H:U} {V:List Nat} {b c:Bool} (h:aI E X g args H V (fun v H'=>v=.bool b)) (e:b=c):aI E X g args H V (fun v H'=>v=.bool c):=e▸h
theorem Yi {s:ByteArray} (h:hU s=true):(s.size:Int)≤200∧hasB s (qr pz)=false∧hasB s (qr t9)=false∧isWord s=true:=by
 rw [hU] at h
 simp only [dI,Bool.not_eq_true',decide_eq_false_iff_not] at h
 exact ⟨D,h.2.1,h.2.2.1,h.2.2.2⟩
theorem ahi {o:Option Value} {b c:Bool} (h:o=some (.bool b)) (e:b=c):o=some (.bool c):=e▸h
theorem Ye (s:ByteArray) {H:U} (y:aa E G H) (hf:hU s=true):aI E G 70 [.string s] H [] (fun v H'=>v=aN):=by
 refine br Tryz.f70 y ?_
 have hp:=Yi hf
 obtain ⟨_,H1,c1,af,y1,aY,rfl,JG,xL⟩:=Po y
 obtain ⟨_,H2,c2,ar,ah,rfl⟩:=Qb (Jt aY (qr pz) 15 s y1 xL (by decide)) hp.2.1
 obtain ⟨_,H3,c3,aW,az,rfl⟩:=Qb (Jt (H2.n+0) (qr t9) 17 s (ah.news [O t9 9]) (aL [O t9 9] H2 0 _ rfl) (by decide)) hp.2.2.1
 obtain ⟨_,H4,cY,c4,bz,yg,rfl,abO⟩:=aco s az hp.1 hp.2.2.2
 exact aH 3 (decide_eq_false D:(decide ((s.size:Int)>200))=false)<|ad 1 c1<|ad 1 c2<|ad 2 (abv ah)<|ad 1 c3<|ad 2 cY<|Z 15 (cg D6 yd abO rfl rfl:ay E 154 yg 0 H4=some (.agg (ip s).toArray))<|aK [aB 1]<|aj [dP aN H4] (ahi (ahH 1 0 s s) (ahK.2 rfl))<|al 2 aN H4 rfl
theorem Pe (s:ByteArray) (hf:hU s=true):∀{H:U},aa E G H→bE E 70 [.string s] H (.ret (.bool (hU s))) H []:=by
 obtain ⟨_,_,c,_,_,rfl⟩:=Ye s gE hf
 rw [hf]
 exact fun y=>gx (iP rfl) (.ground rfl) c y
theorem bE.Pb {g:FuncId} {fn:Func} {args:List Value} {H H':U} {v:Value} {W:List Nat} {e:Array Value→Sem Value} (hf:E.func g=some fn) (hn:(fn.name== "runtime.NumGoroutine")=false) (hb:fn.body=none)
  (hx:(Extern.findNext fn).isNone=true) (he:Extern.find fn=some e) (h0:cz H→cX W H H'∧cz H')
  (run:∀ base φ w args',cz H→Rel E base H φ w→fW φ H.n H'.n→eb φ args args'→∃ u w' aU,(e args'.toArray).run E.P w=.ok u w'∧be aU v u∧eV E base φ w H H' W aU w'):bE E g args H (.ret v) H' W:=fun wf cu=>by
 obtain ⟨h1,h2⟩:=h0 wf
 refine ⟨h1,h2,fun base φ w args' cC hfr hl=>?_⟩
 obtain ⟨u,w',aU,hr,hv,ho⟩:=run base φ w args' wf cC hfr hl
 have hx':Extern.findNext fn=none:=by
  cases h:Extern.findNext fn with
  |none=>rfl
  |some x=>rw [h] at hx;cases hx
 refine .inr ⟨u,w',?_,aU,ho.out wf h1 cC hfr cu,u,rfl,hv⟩
 unfold callFunc
 rw [Go.Am.bt (Go.Am.run_program w)]
 simp only [ok.func _ _ hf,hn,Bool.false_eq_true,if_false,hb,Option.isNone_none,if_true]
 rw [hx',he]
 show ((mark (.extern g)).bind _).run E.P w=_
 rw [Go.Am.run_bind]
 simp only [mark,Sem.run]
 exact Go.Am.bt hr |>.trans rfl
theorem bE.ext {g:FuncId} {fn:Func} {args:List Value} {H H':U} {v:Value} {W:List Nat} {e:Array Value→Sem Value} (hf:E.func g=some fn) (hn:(fn.name== "runtime.NumGoroutine")=false) (hb:fn.body=none)
  (hx:(Extern.findNext fn).isNone=true) (he:Extern.find fn=some e) (h0:cz H→cX W H H'∧cz H')
  (run:∀ base φ w args',cz H→Rel E base H φ w→eb φ args args'→∃ u w',(e args'.toArray).run E.P w=.ok u w'∧be φ v u∧eV E base φ w H H' W φ w'):bE E g args H (.ret v) H' W:=
 bE.Pb hf hn hb hx he h0 fun base φ w args' wf cC _ hl=>by
  obtain ⟨u,w',h⟩:=run base φ w args' wf cC hl
  exact ⟨u,w',φ,h⟩
theorem one_add (a:Addr) (v:Value) {P:Program} {w w':World} (h:(storeCells a [v]).run P w=.ok () w'):(store a v).run P w=.ok () w':=by
 unfold storeCells at h
 have e:a.add 0=a:=by cases a with |mk b o s=>cases s <;> rfl
 rw [e] at h
 rw [Sem.run_bind] at h
 cases hs:(store a v).run P w with
 |ok x w1=>
  rw [hs] at h
  simp only [Result.andThen,storeCells,Go.Am.run_pure] at h
  injection h with _ h
  rw [h]
 |halt x w1=>rw [hs] at h;cases h
theorem acE {φ:bA} {v:Value} (hv:ground v=true):eb φ [v] [v]:=⟨rfl,fun i x y hx hy=>by
 rw [hx] at hy
 injection hy with hy
 subst hy
 have:x=v:=by
  have:=List.mem_of_getElem? hx
  simpa using this
 subst this
 exact .rR hv⟩
theorem ag4 {P:Program} {w:World} {a:Addr} {v y:Value} (m:Mode) (hc:w.cell? a=some y):(store a v m).run P w=(store a v).run P w:=by
 unfold store
 cases v <;> simp only [Sem.run,hc]
theorem KJ {P:Program} {w:World} {a:Addr} {y:Value} (m:Mode) (hc:w.cell? a=some y):(load a m).run P w=.ok y w:=by
 unfold load
 simp only [Sem.run,hc]
section
variable {b o:Nat} {c:List Value} {e:TypeId} {H:U} (k:H.get b=some (.cells c e false))
include k
theorem Et {base:Nat} {φ:bA} {w:World} (wf:cz H) (cC:Rel E base H φ w) {l:Am.Loc} (hl:φ b=some l) {x:Value} (hx:c[o]?=some x) (hg:ground x=true):w.cell? ⟨l.cD,l.off+o,none⟩=some x:=by
 obtain ⟨y,h1,h2⟩:=(cC.blocks b l _ (wf.lt k) hl k).cell hx
 rw [h2.ox hg] at h1
 exact h1
theorem IB {base:Nat} {φ:bA} {w:World} (wf:cz H) (cC:Rel E base H φ w) {l:Am.Loc} (hl:φ b=some l) {x v:Value} (hx:c[o]?=some x) (hg:ground x=true) (hv:ground v=true) (h1:one v=true) :
  ∃ w',(store ⟨l.cD,l.off+o,none⟩ v .atomic).run E.P w=.ok () w'∧eV E base φ w H (H.set b (.cells (splice c o [v]) e false)) [b] φ w':=by
 have hlt:o<c.length:=(List.getElem?_eq_some_iff.1 hx).1
 obtain ⟨w',hr,ho⟩:=eV.write (E:=E) (xs:=[v]) (ys:=[v]) (R:=[b]) (o:=o) (Pre.Lk wf cC [b]) wf bD hl k (by simp;omega) (acE hv) (by simpa using h1)
 exact ⟨w',(ag4 .atomic (Et k wf cC hl hx hg)).trans (one_add _ _ hr),ho⟩
end
theorem LI {b:Nat} {c:List Value} {e:TypeId} {H:U} (k:H.get b=some (.cells c e false)) (c':List Value):cz H→cX [b] H (H.set b (.cells c' e false))∧cz (H.set b (.cells c' e false)):=fun wf=>by
 have h:=dN.set (R:=[b]) wf (.cells c' e false) (b:=b) (by rw [k];rfl) bD
 exact ⟨h.ext,h.wf⟩
theorem Aw {H:U}:cz H→cX [] H H∧cz H:=fun wf=>⟨cX.refl ..,wf⟩
theorem acA {b o:Nat} {c:List Value} {e:TypeId} {H:U} (k:H.get b=some (.cells c e false)) {n:Int} (hx:c[o]?=some (.int .u32 n)):bE E 139 [pt b o] H (.ret (.int .u32 n)) H []:=
 bE.ext (fn:=Tryz.f139) (e:=Extern.Atomic.loadT (.int .u32)) av av av av av Aw fun base φ w args' wf cC hl=>by
  obtain ⟨a1,r1,rfl,g9,dR⟩:=hl.cons_inv
  have:=dR.mO
  subst this
  cases g9 with
  |ptr _ _ l hb=>
  refine ⟨_,w,?_,.int _ _,eV.same rfl rfl rfl rfl⟩
  show (Extern.Atomic.read (.int .u32) ⟨l.cD,l.off+o,none⟩).run E.P w=_
  unfold Extern.Atomic.read
  rw [Go.Am.bt (KJ .atomic (Et k wf cC hb hx rfl))]
  rfl
theorem ag6 {b o:Nat} {c:List Value} {e:TypeId} {H:U} (k:H.get b=some (.cells c e false)) {n m:Int} (hx:c[o]?=some (.int .u32 n)):bE E 192 [pt b o,.int .u32 m] H (.ret (.tuple #[])) (H.set b (.cells (splice c o [.int .u32 m]) e false)) [b]:=
 bE.ext (fn:=Tryz.f192) (e:=Extern.Atomic.storeT) av av av av av (LI k _) fun base φ w args' wf cC hl=>by
  obtain ⟨a1,r1,rfl,g9,dR⟩:=hl.cons_inv
  obtain ⟨a2,r2,rfl,k8,gy⟩:=dR.cons_inv
  have:=gy.mO
  subst this
  have e2:=k8.ox rfl
  subst e2
  cases g9 with
  |ptr _ _ l hb=>
  obtain ⟨w',hr,ho⟩:=IB k wf cC hb hx rfl (v:=.int .u32 m) rfl rfl
  refine ⟨.tuple #[],w',?_,.tuple' ⟨rfl,fun i x y hx=>by simp at hx⟩,ho⟩
  show (do store ⟨l.cD,l.off+o,none⟩ (.int .u32 m) .atomic;pure Extern.Atomic.none_:Sem Value).run E.P w=_
  rw [Go.Am.bt hr]
  rfl
theorem Uz {b o:Nat} {c:List Value} {e:TypeId} {H:U} (k:H.get b=some (.cells c e false)) {n m:Int} (hx:c[o]?=some (.int .i32 n)) :
  bE E 226 [pt b o,.int .i32 m] H (.ret (.int .i32 (IntKind.i32.wrap (n+m)))) (H.set b (.cells (splice c o [.int .i32 (IntKind.i32.wrap (n+m))]) e false)) [b]:=
 bE.ext (fn:=Tryz.f226) (e:=Extern.Atomic.update (Op.intArith .add) .i32 true) av av av av av (LI k _) fun base φ w args' wf cC hl=>by
  obtain ⟨a1,r1,rfl,g9,dR⟩:=hl.cons_inv
  obtain ⟨a2,r2,rfl,k8,gy⟩:=dR.cons_inv
  have:=gy.mO
  subst this
  have e2:=k8.ox rfl
  subst e2
  cases g9 with
  |ptr _ _ l hb=>
  obtain ⟨w',hr,ho⟩:=IB k wf cC hb hx rfl (v:=.int .i32 (IntKind.i32.wrap (n+m))) rfl rfl
  refine ⟨_,w',?_,.int .i32 (IntKind.i32.wrap (n+m)),ho⟩
  have h1:(Extern.Atomic.read (.int .i32) ⟨l.cD,l.off+o,none⟩).run E.P w=.ok (.int .i32 n) w:=by
   unfold Extern.Atomic.read
   rw [Go.Am.bt (KJ .atomic (Et k wf cC hb hx rfl))]
   rfl
  show (do
   let a ← asAddr (.pointer (some ⟨l.cD,l.off+o,none⟩))
   let old ← Extern.Atomic.read (.int .i32) a
   let new ← Op.intArith .add .i32 (← asInt old) (← asInt (.int .i32 m))
   store a new .atomic
   pure (if true then new else old):Sem Value).run E.P w=_
  rw [Go.Am.bt (show (asAddr (.pointer (some ⟨l.cD,l.off+o,none⟩))).run E.P w=.ok ⟨l.cD,l.off+o,none⟩ w from rfl)]
  rw [Go.Am.bt h1]
  rw [Go.Am.bt (show (asInt (.int .i32 n)).run E.P w=.ok n w from rfl)]
  rw [Go.Am.bt (show (asInt (.int .i32 m)).run E.P w=.ok m w from rfl)]
  rw [Go.Am.bt (show (Op.intArith .add .i32 n m).run E.P w=.ok (.int .i32 (IntKind.i32.wrap (n+m))) w from rfl)]
  rw [Go.Am.bt hr]
  rfl
theorem VD {b o:Nat} {c:List Value} {e:TypeId} {H:U} (k:H.get b=some (.cells c e false)) {n m:Int} (hx:c[o]?=some (.int .i32 n)) :
  bE E 221 [pt b o,.int .i32 n,.int .i32 m] H (.ret (.bool true)) (H.set b (.cells (splice c o [.int .i32 m]) e false)) [b]:=
 bE.ext (fn:=Tryz.f221) (e:=Extern.Atomic.casT (.int .i32)) av av av av av (LI k _) fun base φ w args' wf cC hl=>by
  obtain ⟨a1,r1,rfl,g9,dR⟩:=hl.cons_inv
  obtain ⟨a2,r2,rfl,k8,gy⟩:=dR.cons_inv
  obtain ⟨a3,s7,rfl,oz,iM⟩:=gy.cons_inv
  have:=iM.mO
  subst this
  have e2:=k8.ox rfl
  subst e2
  have aM:=oz.ox rfl
  subst aM
  cases g9 with
  |ptr _ _ l hb=>
  obtain ⟨w',hr,ho⟩:=IB k wf cC hb hx rfl (v:=.int .i32 m) rfl rfl
  refine ⟨_,w',?_,.bool true,ho⟩
  have h1:(Extern.Atomic.read (.int .i32) ⟨l.cD,l.off+o,none⟩).run E.P w=.ok (.int .i32 n) w:=by
   unfold Extern.Atomic.read
   rw [Go.Am.bt (KJ .atomic (Et k wf cC hb hx rfl))]
   rfl
  obtain ⟨d4,lo,hi,k1,k2,jh,vG,zK,vI,_⟩:=cC.blocks b l _ (wf.lt k) hb k
  have hlt:o<c.length:=(List.getElem?_eq_some_iff.1 hx).1
  have hfz:w.frozen? ⟨l.cD,l.off+o,none⟩=false:=by
   simp only [World.frozen?,k1]
   have:=vI (l.off+o) D D
   simpa using this
  have h2:(Extern.Atomic.touchesFrozen ⟨l.cD,l.off+o,none⟩).run E.P w=.ok false w:=by
   unfold Extern.Atomic.touchesFrozen
   have hv:(viewAt l.cD).run E.P w=.ok none w:=by
    simp [viewAt,Sem.run,World.shape?,k1]
   rw [Go.Am.bt hv]
   simp only [frozen,Sem.run,hfz]
  show (do
   let a ← asAddr (.pointer (some ⟨l.cD,l.off+o,none⟩))
   if ← Extern.Atomic.touchesFrozen a then unsupported (.unsafePointer "a write to bytes that a string shares")
   let eq ← match Extern.Atomic.T.int .i32,← Extern.Atomic.read (.int .i32) a,(.int .i32 n:Value) with
    |_,.int _ x,.int _ y=>pure (x==y)
    |.ptr,.pointer x,.pointer y=>samePointer x y
    |.int _,.pointer (some _),.int _ 0 |.int _,.int _ 0,.pointer (some _)=>pure false
    |.int _,.pointer (some _),_ |.int _,_,.pointer (some _)=>unsupported .addressObserved
    |_,_,_=>stuck "atomic.CompareAndSwap: old is no T"
   if eq then store a (.int .i32 m) .atomic
   pure (.bool eq):Sem Value).run E.P w=_
  rw [Go.Am.bt (show (asAddr (.pointer (some ⟨l.cD,l.off+o,none⟩))).run E.P w=.ok ⟨l.cD,l.off+o,none⟩ w from rfl)]
  rw [Go.Am.bt h2]
  simp only [Bool.false_eq_true,if_false]
  rw [Go.Am.bt h1]
  simp only [beq_self_eq_true,pure_bind,if_true]
  rw [Go.Am.bt hr]
  rfl
theorem aeZ {H:U}:bE E 220 [] H (.ret (.tuple #[])) H []:=
 bE.ext (fn:=Tryz.f220) (e:=fun _=>do mark .disable;pure Extern.Race.none_) av av av av av Aw fun base φ w args' wf cC hl=>
  ⟨.tuple #[],w,rfl,.tuple' ⟨rfl,fun i x y hx=>by simp at hx⟩,eV.same rfl rfl rfl rfl⟩
theorem ae0 {H:U}:bE E 222 [] H (.ret (.tuple #[])) H []:=
 bE.ext (fn:=Tryz.f222) (e:=fun _=>do mark .enable;pure Extern.Race.none_) av av av av av Aw fun base φ w args' wf cC hl=>
  ⟨.tuple #[],w,rfl,.tuple' ⟨rfl,fun i x y hx=>by simp at hx⟩,eV.same rfl rfl rfl rfl⟩
theorem aeY {b o:Nat} {H:U}:bE E 223 [pt b o] H (.ret (.tuple #[])) H []:=
 bE.ext (fn:=Tryz.f223) (e:=Extern.Race.marked .acquire) av av av av av Aw fun base φ w args' wf cC hl=>by
  obtain ⟨a1,r1,rfl,g9,dR⟩:=hl.cons_inv
  have:=dR.mO
  subst this
  cases g9 with
  |ptr _ _ l hb=>exact ⟨.tuple #[],w,rfl,.tuple' ⟨rfl,fun i x y hx=>by simp at hx⟩,eV.same rfl rfl rfl rfl⟩
theorem ae1 {b o:Nat} {H:U}:bE E 225 [pt b o] H (.ret (.tuple #[])) H []:=
 bE.ext (fn:=Tryz.f225) (e:=Extern.Race.marked .releaseMerge) av av av av av Aw fun base φ w args' wf cC hl=>by
  obtain ⟨a1,r1,rfl,g9,dR⟩:=hl.cons_inv
  have:=dR.mO
  subst this
  cases g9 with
  |ptr _ _ l hb=>exact ⟨.tuple #[],w,rfl,.tuple' ⟨rfl,fun i x y hx=>by simp at hx⟩,eV.same rfl rfl rfl rfl⟩
theorem Rl {b o:Nat} {H:U}:bE E 105 [pt b o] H (.ret (pt b o)) H []:=
 bE.ext (fn:=Tryz.f105) (e:=Extern.AbiNoEscape.same) av av av av av Aw fun base φ w args' wf cC hl=>by
  obtain ⟨a1,r1,rfl,g9,dR⟩:=hl.cons_inv
  have:=dR.mO
  subst this
  exact ⟨a1,w,rfl,g9,eV.same rfl rfl rfl rfl⟩
def KK (args:List Value) (H:U):m0:=match args with
 |[.pointer (some ⟨b,o,none⟩)]=>match H.get b with
  |some (.cells c e false)=>match c[o]? with
   |some (.int .u32 n)=>some (.ret (.int .u32 n),H,[])
   |_=>none
  |_=>none
 |_=>none
def Mx (args:List Value) (H:U):m0:=match args with
 |[.pointer (some ⟨b,o,none⟩),.int .u32 m]=>match H.get b with
  |some (.cells c e false)=>match c[o]? with
   |some (.int .u32 _)=>some (.ret (.tuple #[]),H.set b (.cells (splice c o [.int .u32 m]) e false),[b])
   |_=>none
  |_=>none
 |_=>none
def Ic (args:List Value) (H:U):m0:=match args with
 |[.pointer (some ⟨b,o,none⟩),.int .i32 m]=>match H.get b with
  |some (.cells c e false)=>match c[o]? with
   |some (.int .i32 n)=>some (.ret (.int .i32 (IntKind.i32.wrap (n+m))),H.set b (.cells (splice c o [.int .i32 (IntKind.i32.wrap (n+m))]) e false),[b])
   |_=>none
  |_=>none
 |_=>none
def Iy (args:List Value) (H:U):m0:=match args with
 |[.pointer (some ⟨b,o,none⟩),.int .i32 n,.int .i32 m]=>match H.get b with
  |some (.cells c e false)=>match c[o]? with
   |some (.int .i32 x)=>bif decide (x=n) then some (.ret (.bool true),H.set b (.cells (splice c o [.int .i32 m]) e false),[b]) else none
   |_=>none
  |_=>none
 |_=>none
def GD (args:List Value) (H:U):m0:=match args with
 |[]=>some (.ret (.tuple #[]),H,[])
 |_=>none
def GF (args:List Value) (H:U):m0:=match args with
 |[.pointer (some ⟨b,o,none⟩)]=>some (.ret (.tuple #[]),H,[])
 |_=>none
def O9 (args:List Value) (H:U):m0:=match args with
 |[.pointer (some ⟨b,o,none⟩)]=>some (.ret (pt b o),H,[])
 |_=>none
theorem acz {args:List Value} {H H':U} {r:mX} {W:List Nat} (h:KK args H=some (r,H',W)):bE E 139 args H r H' W:=by
 unfold KK at h
 split at h
 ·split at h
  ·rename_i hg
   split at h
   ·rename_i hx
    simp only [bx,bG] at h
    obtain ⟨rfl,rfl,rfl⟩:=h
    exact acA hg hx
   ·cases h
  ·cases h
 ·cases h
theorem ag5 {args:List Value} {H H':U} {r:mX} {W:List Nat} (h:Mx args H=some (r,H',W)):bE E 192 args H r H' W:=by
 unfold Mx at h
 split at h
 ·split at h
  ·rename_i hg
   split at h
   ·rename_i hx
    simp only [bx,bG] at h
    obtain ⟨rfl,rfl,rfl⟩:=h
    exact ag6 hg hx
   ·cases h
  ·cases h
 ·cases h
theorem UA {args:List Value} {H H':U} {r:mX} {W:List Nat} (h:Ic args H=some (r,H',W)):bE E 226 args H r H' W:=by
 unfold Ic at h
 split at h
 ·split at h
  ·rename_i hg
   split at h
   ·rename_i hx
    simp only [bx,bG] at h
    obtain ⟨rfl,rfl,rfl⟩:=h
    exact Uz hg hx
   ·cases h
  ·cases h
 ·cases h
theorem VE {args:List Value} {H H':U} {r:mX} {W:List Nat} (h:Iy args H=some (r,H',W)):bE E 221 args H r H' W:=by
 unfold Iy at h
 split at h
 ·rename_i b o n m
  split at h
  ·rename_i hg
   split at h
   ·rename_i x hx
    by_cases he:x=n
    ·subst he
     rw [decide_eq_true rfl] at h
     simp only [cond_true,bx,bG] at h
     obtain ⟨rfl,rfl,rfl⟩:=h
     exact VD hg hx
    ·rw [decide_eq_false he] at h;cases h
   ·cases h
  ·cases h
 ·cases h
theorem OO:∀(n t:Nat) (acc:Array Value),(Extern.BytealgMakeNoZero.digits n t acc).size=acc.size+n
 |0,_,_=>rfl
 |n+1,t,acc=>by rw [Extern.BytealgMakeNoZero.digits,OO];simp;omega
theorem adC (ps rs:Array TypeId) (n:Int) (t:TypeId) (h:rs[0]?=some t):Extern.BytealgMakeNoZero.makeNoZero ps rs #[.int .i64 n]=(do
  let .slice elem ← underlying t |stuck "bytealg.MakeNoZero: slice type expected"
  if n<0||n>2 ^ 48 then runtimePanic (.error "makeslice: len out of range")
  let cap ← choose (.appendCap n.toNat 0 elem)
  askRoom cap
  let bytes ← choose (.extern "internal/bytealg.MakeNoZero.bytes" 0)
  let a ← newRow elem (Extern.BytealgMakeNoZero.digits cap bytes #[])
  pure (.slice (some a) n.toNat cap)):=by
 have hd:Extern.BytealgMakeNoZero.makeNoZero ps rs #[.int .i64 n]=(do
  let some t:=rs[0]? |stuck "bytealg.MakeNoZero: no result type"
  let .slice elem ← underlying t |stuck "bytealg.MakeNoZero: slice type expected"
  if n<0||n>2 ^ 48 then runtimePanic (.error "makeslice: len out of range")
  let cap ← choose (.appendCap n.toNat 0 elem)
  askRoom cap
  let bytes ← choose (.extern "internal/bytealg.MakeNoZero.bytes" 0)
  let a ← newRow elem (Extern.BytealgMakeNoZero.digits cap bytes #[])
  pure (.slice (some a) n.toNat cap)):=rfl
 rw [hd]
 simp only [h]
theorem adB {n:Int} {H:U} (h0:0≤n) (h1:n≤1099511627776):bE E 145 [.int .i64 n] H (.ret (.slice (some ⟨H.n,0,none⟩) n.toNat 2)) (H.new (O [] 5)) []:=
 bE.Pb (fn:=Tryz.f145) (e:=Extern.BytealgMakeNoZero.makeNoZero Tryz.f145.params #[42]) av av av av av
  (fun wf=>by have h:=dN.new (R:=[]) wf (O [] 5);exact ⟨h.ext,h.wf⟩) fun base φ w args' wf cC hfr hl=>by
  obtain ⟨a1,r1,rfl,g9,dR⟩:=hl.cons_inv
  have:=dR.mO
  subst this
  have e1:=g9.ox rfl
  subst e1
  have hfree:φ H.n=none:=hfr _ (Nat.le_refl _) bD
  have hge:=IR n.toNat 0 5 (w.tape w.drawn (.appendCap n.toNat 0 5)) D
  generalize JB:(Question.appendCap n.toNat 0 5).cut (w.tape w.drawn (.appendCap n.toNat 0 5))=cap at hge
  let w1:World:={ w with drawn:=w.drawn+1 }
  let w2:World:={ w1 with drawn:=w1.drawn+1 }
  obtain ⟨oo,hby⟩:∃ oo,(choose (.extern "internal/bytealg.MakeNoZero.bytes" 0)).run E.P w1=.ok oo w2:=⟨_,rfl⟩
  refine ⟨.slice (some ⟨w.heap.size,0,none⟩) n.toNat cap,{ w2 with heap:=w.heap.push (.cells (Extern.BytealgMakeNoZero.digits cap oo #[]) 5 (0,0)) },fun j=>if j=H.n then some ⟨w.heap.size,0,cap⟩ else φ j,?_,?_,?_⟩
  ·show (Extern.BytealgMakeNoZero.makeNoZero Tryz.f145.params #[42] #[.int .i64 n]).run E.P w=_
   rw [adC _ _ n 42 rfl]
   rw [Go.Am.bt (ig ok (show E.ul 42=some (.slice 5) by kernel_rfl) w)]
   have c1:(decide (n<0)||decide (n>2 ^ 48))=false:=by
    rw [Bool.or_eq_false_iff];exact ⟨decide_eq_false D,decide_eq_false D⟩
   simp only [c1,Bool.false_eq_true,if_false]
   have BG:(choose (.appendCap n.toNat 0 5)).run E.P w=.ok cap w1:=by rw [← JB];rfl
   rw [Go.Am.bt BG,Go.Am.bt (Ip _ w1),Go.Am.bt hby,Go.Am.bt (x9 _ _ w2)]
   rfl
  ·have:=be.pO (φ:=fun j=>if j=H.n then some ⟨w.heap.size,0,cap⟩ else φ j) H.n 0 n.toNat cap 1 ⟨w.heap.size,0,cap⟩ bD hge bD
   simpa using this
  ·exact eV.row cap [] _ 5 0 0 hfree cC.bs rfl rfl rfl rfl (by rw [OO];simp) bD (fun j y hy=>by simp at hy) (fun j _=>by omega) (fun h=>by exact absurd h (by decide))
end Go.Proofs.YtbehemdcaiigeaaGreatDoor
