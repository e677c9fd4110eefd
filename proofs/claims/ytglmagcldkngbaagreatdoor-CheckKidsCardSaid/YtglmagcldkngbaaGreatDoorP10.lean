/- Part of the proof that CheckKids answers true. -/
import Derived.Test.YtglmagcldkngbaaGreatDoorP09
set_option linter.unusedVariables false
set_option linter.unusedSimpArgs false
set_option maxRecDepth 100000
set_option maxHeartbeats 4000000
namespace Go.Proofs.YtglmagcldkngbaaGreatDoor
open Go Go.Am
def fEs (h:Nat):List MapEntry:=[⟨.string ⟨#[97,98,115]⟩,.agg #[sc (h+1) 0 1 3,iI 2],0⟩,⟨.string ⟨#[116,105,109,101]⟩,.agg #[.slice none 0 0,iI 1],1⟩,⟨.string ⟨#[118,101,99,116,111,114]⟩,.agg #[sc (h+2) 0 1 3,iI 2],2⟩,⟨.string ⟨#[114,97,116,101]⟩,.agg #[sc (h+4) 0 1 3,iI 2],3⟩,⟨.string ⟨#[105,110,99,114,101,97,115,101]⟩,.agg #[sc (h+5) 0 1 3,iI 2],4⟩,⟨.string ⟨#[100,101,108,116,97]⟩,.agg #[sc (h+6) 0 1 3,iI 2],5⟩,⟨.string ⟨#[115,117,109]⟩,.agg #[sc (h+8) 0 1 3,iI 2],6⟩,⟨.string ⟨#[97,118,103]⟩,.agg #[sc (h+9) 0 1 3,iI 2],7⟩,⟨.string ⟨#[109,105,110]⟩,.agg #[sc (h+10) 0 1 3,iI 2],8⟩,⟨.string ⟨#[109,97,120]⟩,.agg #[sc (h+11) 0 1 3,iI 2],9⟩,⟨.string ⟨#[99,111,117,110,116]⟩,.agg #[sc (h+12) 0 1 3,iI 2],10⟩,⟨.string ⟨#[116,111,112,107]⟩,.agg #[sc (h+14) 0 2 5,iI 2],11⟩,⟨.string ⟨#[98,111,116,116,111,109,107]⟩,.agg #[sc (h+15) 0 2 5,iI 2],12⟩]
def aax:List Ob:=[.cells [iI 2] 3 false,.cells [iI 1] 3 false,.cells [.string ⟨#[114,97,116,101]⟩,.string ⟨#[105,110,99,114,101,97,115,101]⟩,.string ⟨#[100,101,108,116,97]⟩] 9 false,.cells [iI 3] 3 false,.cells [iI 3] 3 false,.cells [iI 3] 3 false,.cells [.string ⟨#[115,117,109]⟩,.string ⟨#[97,118,103]⟩,.string ⟨#[109,105,110]⟩,.string ⟨#[109,97,120]⟩,.string ⟨#[99,111,117,110,116]⟩] 9 false,.cells [iI 2] 3 false,.cells [iI 2] 3 false,.cells [iI 2] 3 false,.cells [iI 2] 3 false,.cells [iI 2] 3 false,.cells [.string ⟨#[116,111,112,107]⟩,.string ⟨#[98,111,116,116,111,109,107]⟩] 9 false,.cells [iI 1,iI 2] 3 false,.cells [iI 1,iI 2] 3 false]
def fB (h j q:Nat):List Ob:=.map ((fEs h).take j) j::aax.take q
noncomputable def PX:Code:=cz [1,1,0,1,0,0] (bH Tryz.f23)
theorem UY {H:Hp} (y:Gd E G H):aA E G 49 PX [(1,.map (some (H.n+0))),(15,sc (H.n+3) 0 3 7),(16,iI 3),(17,iI 0)] (news H (fB H.n 3 3)) [H.n+0] (fun x T H'=>x=(.exit 0)∧T=bw [(1,.map (some (H.n+0)))]∧H'=(news H (fB H.n 6 6))):=by
 have g0:=y.n
 have w1:aq E 9 (H.n+3) 0 (news H (fB H.n 3 3))=some (.string ⟨#[114,97,116,101]⟩):=cI bB rfl rfl
 refine aA.next' (y.news (fB H.n 3 3)) (bf [au 1,vl (.string ⟨#[114,97,116,101]⟩) (news H (fB H.n 3 3)),au 4,.val bJ (news H (fB H.n 4 4)) [H.n+0] [H.n+0],au 1] [(1,.map (some (H.n+0))),(15,sc (H.n+3) 0 3 7),(16,iI 3),(17,iI 1)] .normal (news H (fB H.n 4 4)) [H.n+0] (fun _ r_=>cU w1 (show cH E 50 (.map (some (H.n+0))) (.string ⟨#[114,97,116,101]⟩) (.agg #[sc (H.n+4) 0 1 3,iI 2]) (news H (fB H.n 3 4))=some (bJ,news H (fB H.n 4 4),[H.n+0],[H.n+0]) from j3 xL xM rfl rfl ah rfl) r_)) aj ?_
 have w1:aq E 9 (H.n+3) 1 (news H (fB H.n 4 4))=some (.string ⟨#[105,110,99,114,101,97,115,101]⟩):=cI bB rfl rfl
 refine aA.next' (y.news (fB H.n 4 4)) (bf [au 1,vl (.string ⟨#[105,110,99,114,101,97,115,101]⟩) (news H (fB H.n 4 4)),au 4,.val bJ (news H (fB H.n 5 5)) [H.n+0] [H.n+0],au 1] [(1,.map (some (H.n+0))),(15,sc (H.n+3) 0 3 7),(16,iI 3),(17,iI 2)] .normal (news H (fB H.n 5 5)) [H.n+0] (fun _ r_=>cU w1 (show cH E 50 (.map (some (H.n+0))) (.string ⟨#[105,110,99,114,101,97,115,101]⟩) (.agg #[sc (H.n+5) 0 1 3,iI 2]) (news H (fB H.n 4 5))=some (bJ,news H (fB H.n 5 5),[H.n+0],[H.n+0]) from j3 xL xM rfl rfl ah rfl) r_)) aj ?_
 have w1:aq E 9 (H.n+3) 2 (news H (fB H.n 5 5))=some (.string ⟨#[100,101,108,116,97]⟩):=cI bB rfl rfl
 refine aA.next' (y.news (fB H.n 5 5)) (bf [au 1,vl (.string ⟨#[100,101,108,116,97]⟩) (news H (fB H.n 5 5)),au 4,.val bJ (news H (fB H.n 6 6)) [H.n+0] [H.n+0],au 1] [(1,.map (some (H.n+0))),(15,sc (H.n+3) 0 3 7),(16,iI 3),(17,iI 3)] .normal (news H (fB H.n 6 6)) [H.n+0] (fun _ r_=>cU w1 (show cH E 50 (.map (some (H.n+0))) (.string ⟨#[100,101,108,116,97]⟩) (.agg #[sc (H.n+6) 0 1 3,iI 2]) (news H (fB H.n 5 6))=some (bJ,news H (fB H.n 6 6),[H.n+0],[H.n+0]) from j3 xL xM rfl rfl ah rfl) r_)) aj ?_
 exact aA.last' (y.news (fB H.n 6 6)) (bf [au 0] [(1,.map (some (H.n+0)))] (.exit 0) (news H (fB H.n 6 6)) [] (fun _ r_=>r_)) aj aM aJ ⟨rfl,rfl,rfl⟩
noncomputable def PY:Code:=cz [1,1,1,0,1,0,0] (bH Tryz.f23)
noncomputable abbrev l7 (H:Hp):=news H (fB H.n 11 12)
theorem UZ {H:Hp} (y:Gd E G H):aA E G 49 PY [(1,.map (some (H.n+0))),(26,sc (H.n+7) 0 5 11),(27,iI 5),(28,iI 0)] (news H (fB H.n 6 7)) [H.n+0] (fun x T H'=>x=(.exit 2)∧T=bw [(1,.map (some (H.n+0)))]∧H'=(l7 H)):=by
 have g0:=y.n
 have w1:aq E 9 (H.n+7) 0 (news H (fB H.n 6 7))=some (.string ⟨#[115,117,109]⟩):=cI bB rfl rfl
 refine aA.next' (y.news (fB H.n 6 7)) (bf [au 1,vl (.string ⟨#[115,117,109]⟩) (news H (fB H.n 6 7)),au 4,.val bJ (news H (fB H.n 7 8)) [H.n+0] [H.n+0],au 1] [(1,.map (some (H.n+0))),(26,sc (H.n+7) 0 5 11),(27,iI 5),(28,iI 1)] .normal (news H (fB H.n 7 8)) [H.n+0] (fun _ r_=>cU w1 (show cH E 50 (.map (some (H.n+0))) (.string ⟨#[115,117,109]⟩) (.agg #[sc (H.n+8) 0 1 3,iI 2]) (news H (fB H.n 6 8))=some (bJ,news H (fB H.n 7 8),[H.n+0],[H.n+0]) from j3 xL xM rfl rfl ah rfl) r_)) aj ?_
 have w1:aq E 9 (H.n+7) 1 (news H (fB H.n 7 8))=some (.string ⟨#[97,118,103]⟩):=cI bB rfl rfl
 refine aA.next' (y.news (fB H.n 7 8)) (bf [au 1,vl (.string ⟨#[97,118,103]⟩) (news H (fB H.n 7 8)),au 4,.val bJ (news H (fB H.n 8 9)) [H.n+0] [H.n+0],au 1] [(1,.map (some (H.n+0))),(26,sc (H.n+7) 0 5 11),(27,iI 5),(28,iI 2)] .normal (news H (fB H.n 8 9)) [H.n+0] (fun _ r_=>cU w1 (show cH E 50 (.map (some (H.n+0))) (.string ⟨#[97,118,103]⟩) (.agg #[sc (H.n+9) 0 1 3,iI 2]) (news H (fB H.n 7 9))=some (bJ,news H (fB H.n 8 9),[H.n+0],[H.n+0]) from j3 xL xM rfl rfl ah rfl) r_)) aj ?_
 have w1:aq E 9 (H.n+7) 2 (news H (fB H.n 8 9))=some (.string ⟨#[109,105,110]⟩):=cI bB rfl rfl
 refine aA.next' (y.news (fB H.n 8 9)) (bf [au 1,vl (.string ⟨#[109,105,110]⟩) (news H (fB H.n 8 9)),au 4,.val bJ (news H (fB H.n 9 10)) [H.n+0] [H.n+0],au 1] [(1,.map (some (H.n+0))),(26,sc (H.n+7) 0 5 11),(27,iI 5),(28,iI 3)] .normal (news H (fB H.n 9 10)) [H.n+0] (fun _ r_=>cU w1 (show cH E 50 (.map (some (H.n+0))) (.string ⟨#[109,105,110]⟩) (.agg #[sc (H.n+10) 0 1 3,iI 2]) (news H (fB H.n 8 10))=some (bJ,news H (fB H.n 9 10),[H.n+0],[H.n+0]) from j3 xL xM rfl rfl ah rfl) r_)) aj ?_
 have w1:aq E 9 (H.n+7) 3 (news H (fB H.n 9 10))=some (.string ⟨#[109,97,120]⟩):=cI bB rfl rfl
 refine aA.next' (y.news (fB H.n 9 10)) (bf [au 1,vl (.string ⟨#[109,97,120]⟩) (news H (fB H.n 9 10)),au 4,.val bJ (news H (fB H.n 10 11)) [H.n+0] [H.n+0],au 1] [(1,.map (some (H.n+0))),(26,sc (H.n+7) 0 5 11),(27,iI 5),(28,iI 4)] .normal (news H (fB H.n 10 11)) [H.n+0] (fun _ r_=>cU w1 (show cH E 50 (.map (some (H.n+0))) (.string ⟨#[109,97,120]⟩) (.agg #[sc (H.n+11) 0 1 3,iI 2]) (news H (fB H.n 9 11))=some (bJ,news H (fB H.n 10 11),[H.n+0],[H.n+0]) from j3 xL xM rfl rfl ah rfl) r_)) aj ?_
 have w1:aq E 9 (H.n+7) 4 (news H (fB H.n 10 11))=some (.string ⟨#[99,111,117,110,116]⟩):=cI bB rfl rfl
 refine aA.next' (y.news (fB H.n 10 11)) (bf [au 1,vl (.string ⟨#[99,111,117,110,116]⟩) (news H (fB H.n 10 11)),au 4,.val bJ (l7 H) [H.n+0] [H.n+0],au 1] [(1,.map (some (H.n+0))),(26,sc (H.n+7) 0 5 11),(27,iI 5),(28,iI 5)] .normal (l7 H) [H.n+0] (fun _ r_=>cU w1 (show cH E 50 (.map (some (H.n+0))) (.string ⟨#[99,111,117,110,116]⟩) (.agg #[sc (H.n+12) 0 1 3,iI 2]) (news H (fB H.n 10 12))=some (bJ,l7 H,[H.n+0],[H.n+0]) from j3 xL xM rfl rfl ah rfl) r_)) aj ?_
 exact aA.last' (y.news (fB H.n 11 12)) (bf [au 0] [(1,.map (some (H.n+0)))] (.exit 2) (l7 H) [] (fun _ r_=>r_)) aj aM aJ ⟨rfl,rfl,rfl⟩
noncomputable def PZ:Code:=cz [1,1,1,1,0,1,0,0] (bH Tryz.f23)
noncomputable abbrev kB (H:Hp):=news H (fB H.n 13 15)
theorem U0 {H:Hp} (y:Gd E G H):aA E G 49 PZ [(1,.map (some (H.n+0))),(37,sc (H.n+13) 0 2 5),(38,iI 2),(39,iI 0)] (news H (fB H.n 11 13)) [H.n+0] (fun x T H'=>x=(.exit 4)∧T=bw [(1,.map (some (H.n+0)))]∧H'=(kB H)):=by
 have g0:=y.n
 have w1:aq E 9 (H.n+13) 0 (news H (fB H.n 11 13))=some (.string ⟨#[116,111,112,107]⟩):=cI bB rfl rfl
 refine aA.next' (y.news (fB H.n 11 13)) (bf [au 1,vl (.string ⟨#[116,111,112,107]⟩) (news H (fB H.n 11 13)),au 4,.val bJ (news H (fB H.n 12 14)) [H.n+0] [H.n+0],au 1] [(1,.map (some (H.n+0))),(37,sc (H.n+13) 0 2 5),(38,iI 2),(39,iI 1)] .normal (news H (fB H.n 12 14)) [H.n+0] (fun _ r_=>cU w1 (show cH E 50 (.map (some (H.n+0))) (.string ⟨#[116,111,112,107]⟩) (.agg #[sc (H.n+14) 0 2 5,iI 2]) (news H (fB H.n 11 14))=some (bJ,news H (fB H.n 12 14),[H.n+0],[H.n+0]) from j3 xL xM rfl rfl ah rfl) r_)) aj ?_
 have w1:aq E 9 (H.n+13) 1 (news H (fB H.n 12 14))=some (.string ⟨#[98,111,116,116,111,109,107]⟩):=cI bB rfl rfl
 refine aA.next' (y.news (fB H.n 12 14)) (bf [au 1,vl (.string ⟨#[98,111,116,116,111,109,107]⟩) (news H (fB H.n 12 14)),au 4,.val bJ (kB H) [H.n+0] [H.n+0],au 1] [(1,.map (some (H.n+0))),(37,sc (H.n+13) 0 2 5),(38,iI 2),(39,iI 2)] .normal (kB H) [H.n+0] (fun _ r_=>cU w1 (show cH E 50 (.map (some (H.n+0))) (.string ⟨#[98,111,116,116,111,109,107]⟩) (.agg #[sc (H.n+15) 0 2 5,iI 2]) (news H (fB H.n 12 15))=some (bJ,kB H,[H.n+0],[H.n+0]) from j3 xL xM rfl rfl ah rfl) r_)) aj ?_
 exact aA.last' (y.news (fB H.n 13 15)) (bf [au 0] [(1,.map (some (H.n+0)))] (.exit 4) (kB H) [] (fun _ r_=>r_)) aj aM aJ ⟨rfl,rfl,rfl⟩
theorem X9:E.func 23=some Tryz.f23:=ah
theorem Ya:bO Tryz.f23 0=true:=ah
theorem BF  {H:Hp} (y:Gd E G H):aD E G 23 [] H [] (fun v H'=>∃ m,v=.map (some m)∧Forms H' m):=by
 obtain ⟨_,_,_,cL0,_,_,rfl,rfl,rfl⟩:=(UY y).code
 obtain ⟨_,_,_,cL1,_,_,rfl,rfl,rfl⟩:=(UZ y).code
 obtain ⟨_,_,_,cL2,_,_,rfl,rfl,rfl⟩:=(U0 y).code
 exact aD.mk y (dj [au 3,.val bJ (news H (fB H.n 1 1)) [H.n+0] [H.n+0],au 0,.val bJ (news H (fB H.n 2 1)) [H.n+0] [H.n+0],au 1,.val bJ (news H (fB H.n 3 2)) [H.n+0] [H.n+0],au 4,.loop [1,15,16,17] (.exit 0) (bw [(1,.map (some (H.n+0)))]) (news H (fB H.n 6 6)) [H.n+0],au 2,.loop [1,26,27,28] (.exit 2) (bw [(1,.map (some (H.n+0)))]) (l7 H) [H.n+0],au 2,.loop [1,37,38,39] (.exit 4) (bw [(1,.map (some (H.n+0)))]) (kB H) [H.n+0],au 1] (.map (some (H.n+0))) (kB H) [H.n+0,H.n+0,H.n+0,H.n+0,H.n+0,H.n+0] X9 Ya (fG (show cH E 50 (.map (some (H.n+0))) (.string ⟨#[97,98,115]⟩) (.agg #[sc (H.n+1) 0 1 3,iI 2]) (news H (fB H.n 0 1))=some (bJ,news H (fB H.n 1 1),[H.n+0],[H.n+0]) from j3 xL xM rfl rfl ah rfl) (show cH E 50 (.map (some (H.n+0))) (.string ⟨#[116,105,109,101]⟩) (.agg #[.slice none 0 0,iI 1]) (news H (fB H.n 1 1))=some (bJ,news H (fB H.n 2 1),[H.n+0],[H.n+0]) from j3 xL xM rfl rfl ah rfl) (show cH E 50 (.map (some (H.n+0))) (.string ⟨#[118,101,99,116,111,114]⟩) (.agg #[sc (H.n+2) 0 1 3,iI 2]) (news H (fB H.n 2 2))=some (bJ,news H (fB H.n 3 2),[H.n+0],[H.n+0]) from j3 xL xM rfl rfl ah rfl) cL0 cL1 cL2 aS)) (by intro q hq;simp only [List.mem_cons,aH,or_false,false_or,bF,show (fB H.n 13 15).length=16 from rfl] at hq ⊢;omega) aM ⟨_,rfl,Rf (aB (fB H.n 13 15) H 0 _ rfl) (.cons (.inr ⟨_,false,_,rfl,aB (fB H.n 13 15) H 1 _ rfl⟩) rfl (by decide) (.cons (.inl rfl) rfl (by decide) (.cons (.inr ⟨_,false,_,rfl,aB (fB H.n 13 15) H 2 _ rfl⟩) rfl (by decide) (.cons (.inr ⟨_,false,_,rfl,aB (fB H.n 13 15) H 4 _ rfl⟩) rfl (by decide) (.cons (.inr ⟨_,false,_,rfl,aB (fB H.n 13 15) H 5 _ rfl⟩) rfl (by decide) (.cons (.inr ⟨_,false,_,rfl,aB (fB H.n 13 15) H 6 _ rfl⟩) rfl (by decide) (.cons (.inr ⟨_,false,_,rfl,aB (fB H.n 13 15) H 8 _ rfl⟩) rfl (by decide) (.cons (.inr ⟨_,false,_,rfl,aB (fB H.n 13 15) H 9 _ rfl⟩) rfl (by decide) (.cons (.inr ⟨_,false,_,rfl,aB (fB H.n 13 15) H 10 _ rfl⟩) rfl (by decide) (.cons (.inr ⟨_,false,_,rfl,aB (fB H.n 13 15) H 11 _ rfl⟩) rfl (by decide) (.cons (.inr ⟨_,false,_,rfl,aB (fB H.n 13 15) H 12 _ rfl⟩) rfl (by decide) (.cons (.inr ⟨_,false,_,rfl,aB (fB H.n 13 15) H 14 _ rfl⟩) rfl (by decide) (.cons (.inr ⟨_,false,_,rfl,aB (fB H.n 13 15) H 15 _ rfl⟩) rfl (by decide) .nil)))))))))))))⟩
theorem qF:tu E #[44,44] 3 1 8=true:=ah
noncomputable def P9:Code:=cz [1,1,0,1,0,0] (bH Tryz.f14)
noncomputable abbrev jo H (x2:Xp):=news H [.cells (eC x2.f) 27 false]
noncomputable abbrev oN H1 x2:=news H1 [.cells [iI (bP x2)] 3 false]
noncomputable abbrev Cp H:=news H [.cells [iI 0,iI 0,uU 0,.string ⟨#[]⟩,.slice none 0 0,iI 0,iI 0,.bool false,iI 0,iI 0,.slice none 0 0,.bool false,.slice none 0 0] 27 false]
theorem Vy (x:Xp) (X:Hp) (hx:Gd E G X) (a:At X x) (hz:Sz x) (qR:∀ k∈x.kids,∀{H:Hp},Gd E X H→aD E X 14 [.agg (eC k.f).toArray] H [] (fun v _=>v=iI (bP k))) (bx:Nat) (R:List Int):∀(m:Nat) (J0:Int) (q:Nat) (ks:List Int) (H:Hp),Gd E X H→(kb:H.get bx=some (.cells (eC x.f) 27 false))→(kq:H.get q=some (.cells (gz ks) 3 false))→(x0:0≤J0)→(hl:(ks.length:Int)=J0)→(hR:ks++jM (x.kids.drop J0.toNat)=R)→(gq:X.n≤q)→(db:bx≠q)→((x.f.nk:Int)-J0).toNat=m→
  aA E X 71 P9 [(1,pt bx 0),(3,sc q 0 ks.length 2),(9,.slice x.f.pk x.f.nk x.f.ck),(10,iI ((x.f.nk:Nat):Int)),(11,iI J0)] H [q] (fun xx T H'=>(xx=(.exit 0)∧∃(zq:Nat) (ZW:List Int),T=bw [(1,pt bx 0),(3,sc zq 0 ZW.length 2)]∧(R=ZW∧H'.get zq=some (.cells (gz ZW) 3 false)))):=by
 intro m
 induction m using Nat.strongRecOn with
 |_ m ih=>
 intro J0 q ks H y kb kq x0 hl hR gq db hm
 have hk:=hz.nk
 have abu:=y.wf.lt kb
 have R0:=y.wf.lt kq
 cases h1:(decide (J0<((x.f.nk:Nat):Int))) with
 |true=>
  have q1:=aL h1
  obtain ⟨d1,HG,t1,hY,lM⟩:=a.rk.open aa
  have vH:=hx.wf.lt lM
  obtain ⟨x2,m2⟩:=a.W5 (i:=J0.toNat) aa
  have w1:aq E 27 d1 (0+J0.toNat*13) H=some (.agg (eC x2.f).toArray):=RL bL aK (y.cell lM vH) m2 aa
  have w2:aq E 27 (H.n+0) 0 (jo H x2)=some (.agg (eC x2.f).toArray):=fQ bL aK rfl rfl rfl
  obtain ⟨_,H1,c1,bN,y1,rfl⟩:=qR x2 (vI m2) (y.news [.cells (eC x2.f) 27 false])
  have jq:H.n+1≤H1.n:=by have h:=bN.n;rw [bF] at h;exact h
  have g1:=y1.n
  have B6:=(y.news [.cells (eC x2.f) 27 false]).kept bN aH (y.old kq [.cells (eC x2.f) 27 false])
  obtain ⟨K2,e2⟩:∃ K_,K_=((oN H1 x2).set q .dead).new (.cells (gz (ks++[bP x2])) 3 false):=⟨_,rfl⟩
  have y2:Gd E X K2:=xN (y1.news [.cells [iI (bP x2)] 3 false]) e2 aa (by rw [bF];simp only [List.length_cons,List.length_nil];omega)
  have jI:K2.n=H1.n+2:=by rw [Ek e2,bF] <;> rfl
  have I7:K2.get (H1.n+1)=some (.cells (gz (ks++[bP x2])) 3 false):=sM e2
  have w3:=aC (J0+1)
  have eI:=(y.news [.cells (eC x2.f) 27 false]).kept bN aH (y.old kb [.cells (eC x2.f) 27 false])
  have mV:=iM (y1.news [.cells [iI (bP x2)] 3 false]) e2 aa (y1.old eI [.cells [iI (bP x2)] 3 false])
  exact aA.nN y (bf [aI,vl (pt d1 (0+J0.toNat*13)) H,vl (.agg (eC x2.f).toArray) H,au 0,vl bJ (jo H x2),au 0,vl (.agg (eC x2.f).toArray) (jo H x2),.call (iI (bP x2)) H1 [],au 0,.val (sc (H1.n+1) 0 ((ks++[bP x2]).length) 2) K2 [q] [q,H1.n+0],au 0,.as (iI (J0+1)),au 0] [(1,pt bx 0),(3,sc (H1.n+1) 0 ((ks++[bP x2]).length) 2),(9,.slice x.f.pk x.f.nk x.f.ck),(10,iI ((x.f.nk:Nat):Int)),(11,iI (J0+1))] .normal K2 [H.n+0,q] (fun _ r_=>aE h1 (show aN E 25 (.slice x.f.pk x.f.nk x.f.ck) (iI J0)=some (pt d1 (0+J0.toNat*13)) from jA bD aK hY aa aa) w1 (show az E 27 (H.n+0) 0 (.agg (eC x2.f).toArray) (Cp H)=some (jo H x2) from cN aK rfl rfl rfl rfl) w2 c1 (show ee E #[44,44] (sc q 0 ks.length 2) (sc (H1.n+0) 0 1 3) (oN H1 x2)=some (sc (H1.n+1) 0 ((ks++[bP x2]).length) 2,K2,[q],[q,H1.n+0]) from (rz qF rfl (show n9 (oN H1 x2) 1 (sc (H1.n+0) 0 1 3)=some (1,[iI (bP x2)],[H1.n+0]) from kK (aB [.cells [iI (bP x2)] 3 false] H1 0 _ rfl) (dm rfl)) rfl (y1.old B6 [.cells [iI (bP x2)] 3 false]) (by rw [aa8];omega) aa).trans (by rw [aa9 ks (bP x2),RF ks (bP x2),e2] <;> rfl)) w3 r_)) aG aG (ih _ aa (J0+1) (H1.n+1) (ks++[bP x2]) _ y2 mV I7 aa (by simp only [List.length_append,List.length_cons,List.length_nil];omega) (by rw [dh aa];exact Ca m2 hR) aa aa rfl)
 |false=>
  have q1:=aQ h1
  exact aA.last' y (bf [aF] [(1,pt bx 0),(3,sc q 0 ks.length 2)] (.exit 0) H [] (fun _ r_=>cF h1 r_)) aj aM aJ ⟨rfl,q,ks,rfl,⟨Fw hR (by have:=a.nk;omega),kq⟩⟩
noncomputable def P8:Code:=cz [1,1,0,1,0,0] (bH Tryz.f14)
noncomputable abbrev wC H1 x2:=news H1 [.cells [iI (bP x2)] 3 false,.cells [iI (bP x2)] 3 false]
theorem Vx (x:Xp) (X:Hp) (hx:Gd E G X) (a:At X x) (hz:Sz x) (qR:∀ k∈x.kids,∀{H:Hp},Gd E X H→aD E X 14 [.agg (eC k.f).toArray] H [] (fun v _=>v=iI (bP k))) (bx:Nat) (R:List Int):∀(m:Nat)  (H:Hp),Gd E X H→(kb:H.get bx=some (.cells (eC x.f) 27 false))→(hR:jM x.kids=R)→0=m→
  aA E X 71 P8 [(1,pt bx 0),(3,.slice none 0 0),(9,.slice x.f.pk x.f.nk x.f.ck),(10,iI ((x.f.nk:Nat):Int)),(11,iI 0)] H [] (fun xx T H'=>(xx=(.exit 0)∧T=bw [(1,pt bx 0),(3,.slice none 0 0)]∧(R=[]))∨(xx=(.exit 0)∧∃(zq:Nat) (ZW:List Int),T=bw [(1,pt bx 0),(3,sc zq 0 ZW.length 2)]∧(R=ZW∧H'.get zq=some (.cells (gz ZW) 3 false)))):=by
 intro m
 induction m using Nat.strongRecOn with
 |_ m ih=>
 intro  H y kb hR hm
 have hk:=hz.nk
 have abu:=y.wf.lt kb
 cases h1:(decide (0<((x.f.nk:Nat):Int))) with
 |true=>
  have q1:=aL h1
  obtain ⟨d1,HG,t1,hY,lM⟩:=a.rk.open aa
  have vH:=hx.wf.lt lM
  obtain ⟨x2,m2⟩:=a.W5 (i:=0) aa
  have w1:aq E 27 d1 (0+0) H=some (.agg (eC x2.f).toArray):=RL bL aK (y.cell lM vH) m2 aa
  have w2:aq E 27 (H.n+0) 0 (jo H x2)=some (.agg (eC x2.f).toArray):=fQ bL aK rfl rfl rfl
  obtain ⟨_,H1,c1,bN,y1,rfl⟩:=qR x2 (vI m2) (y.news [.cells (eC x2.f) 27 false])
  have jq:H.n+1≤H1.n:=by have h:=bN.n;rw [bF] at h;exact h
  have g1:=y1.n
  have eI:=(y.news [.cells (eC x2.f) 27 false]).kept bN aH (y.old kb [.cells (eC x2.f) 27 false])
  exact aA.nN y (bf [aI,vl (pt d1 (0+0)) H,vl (.agg (eC x2.f).toArray) H,au 0,vl bJ (jo H x2),au 0,vl (.agg (eC x2.f).toArray) (jo H x2),.call (iI (bP x2)) H1 [],au 0,.val (sc (H1.n+1) 0 1 2) (wC H1 x2) [] [H1.n+0],au 2] [(1,pt bx 0),(3,sc (H1.n+1) 0 1 2),(9,.slice x.f.pk x.f.nk x.f.ck),(10,iI ((x.f.nk:Nat):Int)),(11,iI 1)] .normal (wC H1 x2) [H.n+0] (fun _ r_=>fk h1 (show aN E 25 (.slice x.f.pk x.f.nk x.f.ck) (iI 0)=some (pt d1 (0+0)) from jA bD aK hY aa aa) w1 (show az E 27 (H.n+0) 0 (.agg (eC x2.f).toArray) (Cp H)=some (jo H x2) from cN aK rfl rfl rfl rfl) w2 c1 (show ee E #[44,44] (.slice none 0 0) (sc (H1.n+0) 0 1 3) (oN H1 x2)=some (sc (H1.n+1) 0 1 2,wC H1 x2,[],[H1.n+0]) from uH qF rfl (show n9 (oN H1 x2) 1 (sc (H1.n+0) 0 1 3)=some (1,[iI (bP x2)],[H1.n+0]) from kK (aB [.cells [iI (bP x2)] 3 false] H1 0 _ rfl) (dm rfl)) rfl (by decide) (by decide)) r_)) aG aG ((Vy x X hx a hz qR bx R _ 1 (H1.n+1) ([bP x2]) _ (y1.news [.cells [iI (bP x2)] 3 false,.cells [iI (bP x2)] 3 false]) (y1.old eI [.cells [iI (bP x2)] 3 false,.cells [iI (bP x2)] 3 false]) (aB [.cells [iI (bP x2)] 3 false,.cells [iI (bP x2)] 3 false] H1 1 _ rfl) aa rfl (Ca (ks:=[]) (i:=0) m2 hR) aa aa rfl).mono fun _ _ _ h=>.inr h)
 |false=>
  have q1:=aQ h1
  exact aA.last' y (bf [aF] [(1,pt bx 0),(3,.slice none 0 0)] (.exit 0) H [] (fun _ r_=>cF h1 r_)) aj aM aM (.inl (⟨rfl,rfl,Fw (kids:=x.kids) (ks:=[]) (i:=0) hR (by have:=a.nk;omega)⟩))
theorem ir:E.func 14=some Tryz.f14:=ah
theorem iu:bO Tryz.f14 1=true:=ah
noncomputable abbrev dG H (x:Xp):=news H [.cells (eC x.f) 27 false]
noncomputable abbrev cY H3:=news H3 [.cells [.slice none 0 0,iI 0] 48 false]
noncomputable abbrev dH H3 fp fn fc fg:=news H3 [.cells [.slice fp fn fc,iI fg] 48 false]
noncomputable abbrev oR (x:Xp) (H:Hp) (H1:Hp) (l_:List Hint):=au 3::vl (.slice x.f.pk x.f.nk x.f.ck) (dG H x)::au 1::.loop [1,3,9,10,11] (.exit 0) (bw [(1,pt (H.n+0) 0),(3,.slice none 0 0)]) H1 []::au 0::l_
noncomputable abbrev DV (x:Xp) (H:Hp) (H1:Hp) (H2:Hp) (l_:List Hint):=oR x H H1 (.call (.bool false) H2 []::au 0::vl (iI x.f.k) H2::aF::au 0::aF::au 0::aI::au 1::vl (iI x.f.wide) H2::l_)
noncomputable abbrev DW (x:Xp) (H:Hp) (H1:Hp) (H2:Hp) fm (H3:Hp) (l_:List Hint):=oR x H H1 (.call (.bool false) H2 []::au 0::vl (iI x.f.k) H2::aF::au 0::aF::au 0::aF::au 0::aF::au 0::aF::au 0::.call (.map (some fm)) H3 []::au 0::vl (.string x.f.s) H3::l_)
noncomputable abbrev DX (x:Xp) (H:Hp) (H1:Hp) (H2:Hp) fm (H3:Hp) fp fn fc fg (l_:List Hint):=DW x H H1 H2 fm H3 (.val (.tuple #[.agg #[.slice fp fn fc,iI fg],.bool true]) H3 [] [fm]::au 3::vl bJ (dH H3 fp fn fc fg)::au 4::vl (.slice fp fn fc) (dH H3 fp fn fc fg)::au 0::l_)
theorem abg (x:Xp) (X:Hp) (hx:Gd E G X) (a:At X x) (hz:Sz x) (qR:∀ k∈x.kids,∀{H:Hp},Gd E X H→aD E X 14 [.agg (eC k.f).toArray] H [] (fun v _=>v=iI (bP k))) (j6:x.f.k=6→x.f.nk=2) (j7:x.f.k=7→x.f.nk=1) {H:Hp} (y:Gd E X H):aD E X 14 [.agg (eC x.f).toArray] H [] (fun v H'=>v=iI (bP x)):=by
 have hk:=hz.nk
 have w1:aq E 25 (H.n+0) 12 (dG H x)=some (.slice x.f.pk x.f.nk x.f.ck):=cI di rfl rfl
 obtain ⟨_,_,H1,c1,bN,y1,eD⟩:=(Vx x X hx a hz qR (H.n+0) (jM x.kids) _ _ (y.news [.cells (eC x.f) 27 false]) (aB [.cells (eC x.f) 27 false] H 0 _ rfl) rfl rfl).code
 rcases eD with ⟨rfl,rfl,cw⟩ |⟨rfl,vA,fh,rfl,cw,Nq⟩
 ·have jq:H.n+1≤H1.n:=by have h:=bN.n;rw [bF] at h;exact h
  have bz:=(y.news [.cells (eC x.f) 27 false]).kept bN aH (aB [.cells (eC x.f) 27 false] H 0 _ rfl)
  have afN:x.f.nk=0:=by rw [a.nk,← zx,cw];rfl
  obtain ⟨_,H2,c2,dc,y2,oP⟩:=iL (yL y1 (Ni none 0 0 [] 0 (qA hx y1) (.inl rfl) rfl (by decide)))
  rcases oP with ⟨rfl,ig⟩ |⟨rfl,ig⟩
  ·exact bA y (oR x H H1 [.call (.bool true) H2 [],au 0]) (iI 0) H2 ir iu (eY w1 c1 c2 aS) (by rw [dP,cw,G8 ig])
  ·have jI:H1.n+0≤H2.n:=dc.n
   have bI:=y1.kept dc aH bz
   have w2:aq E 3 (H.n+0) 0 H2=some (iI x.f.k):=bQ aR bI rfl
   cases h3:(x.f.k==1) with
   |true=>
    have q3:=bW h3
    exact bA y (oR x H H1 [.call (.bool false) H2 [],au 0,vl (iI x.f.k) H2,aI,au 1]) (iI 1) H2 ir iu (eM w1 c1 c2 w2 h3 aS) (by rw [dP,cw,Nl ig q3])
   |false=>
    have q3:=bK h3
    cases h4:(x.f.k==2) with
    |true=>
     have q4:=bW h4
     exact bA y (oR x H H1 [.call (.bool false) H2 [],au 0,vl (iI x.f.k) H2,aF,au 0,aI,au 1]) (iI 4) H2 ir iu (fG w1 c1 c2 w2 h3 h4 aS) (by rw [dP,cw,Nm ig q4])
    |false=>
     have q4:=bK h4
     cases h5:(x.f.k==3) with
     |true=>
      have q5:=bW h5
      have w3:aq E 2 (H.n+0) 5 H2=some (iI x.f.wide):=bQ jy bI rfl
      cases h6:(decide (x.f.wide>0)) with
      |true=>
       have q6:=aL h6
       exact bA y (DV x H H1 H2 [aI,au 0]) (iI 3) H2 ir iu (aE w1 c1 c2 w2 h3 h4 h5 w3<|cF h6 aS) (by rw [dP,cw,Nn ig q5 q6])
      |false=>
       have q6:=aQ h6
       exact bA y (DV x H H1 H2 [aF,au 0]) (iI 2) H2 ir iu (aE w1 c1 c2 w2 h3 h4 h5 w3<|cF h6 aS) (by rw [dP,cw,Jb ig q5 q6])
     |false=>
      have q5:=bK h5
      have w3:(x.f.k==6)=false:=beq_eq_false_iff_ne.2 aa
      have w4:(x.f.k==7)=false:=beq_eq_false_iff_ne.2 aa
      obtain ⟨_,H3,c3,gB,y3,fm,rfl,hfm⟩:=yL y2 (BF (qA hx y2))
      have xS:H2.n+0≤H3.n:=gB.n
      have ep:=y2.kept gB aH bI
      have w5:aq E 9 (H.n+0) 3 H3=some (.string x.f.s):=bQ bB ep rfl
      rcases hfm x.f.s with ⟨hfn,hfl⟩ |⟨fp,fn,fc,fts,fg,hfn,hfl,hfr,hfz,hf3⟩
      ·exact aD.mk y (dj (DW x H H1 H2 fm H3 [.val (.tuple #[.agg #[.slice none 0 0,iI 0],.bool false]) H3 [] [fm],au 3,vl bJ (cY H3),au 5]) (iI 0) (cY H3) [H3.n+0] ir iu (aE w1 c1 c2 w2 h3 h4 h5 w3<|aE w4 ag (show (H3.n+0)<H3.n∨H3.n≤(H3.n+0) from aV) c3 ag ag w5 ag<|aE hfl ag ag ag ag ag (show az E 48 (H3.n+0) 0 (.agg #[.slice none 0 0,iI 0]) (cY H3)=some (cY H3) from cN qX rfl rfl rfl rfl) (show bC (cY H3) (cY H3) [H3.n+0]=true from kW (y3.news [.cells [.slice none 0 0,iI 0] 48 false]) (aB [.cells [.slice none 0 0,iI 0] 48 false] H3 0 _ rfl))<|cF ag aS)) aG aM (by rw [dP,cw,uR ig aa aa aa aa aa,BC hfn])
      ·have w6:aq E 44 (H3.n+0) 0 (dH H3 fp fn fc fg)=some (.slice fp fn fc):=cI tn rfl rfl
       obtain ⟨_,H4,c4,rj,y4,Ht⟩:=iL (yL (y3.news [.cells [.slice fp fn fc,iI fg] 48 false]) (Ft fp fn fc fts none 0 0 [] (qA hx (y3.news [.cells [.slice fp fn fc,iI fg] 48 false])) (Nx y3.wf [.cells [.slice fp fn fc,iI fg] 48 false] hfr) hfz aa (.inl rfl) rfl))
       rcases Ht with ⟨rfl,Tu⟩ |⟨rfl,Tu⟩
       ·have H9:H3.n+1≤H4.n:=by have h:=rj.n;rw [bF] at h;exact h
        have tP:=(y3.news [.cells [.slice fp fn fc,iI fg] 48 false]).kept rj aH (aB [.cells [.slice fp fn fc,iI fg] 48 false] H3 0 _ rfl)
        have w7:aq E 3 (H3.n+0) 1 H4=some (iI fg):=bQ aR tP rfl
        exact aD.mk y (dj (DX x H H1 H2 fm H3 fp fn fc fg [.call (.bool true) H4 [],au 2,vl (iI fg) H4,au 0]) (iI fg) H4 [H3.n+0] ir iu (aE w1 c1 c2 w2 h3 h4 h5 w3<|aE w4 ag (show (H3.n+0)<H3.n∨H3.n≤(H3.n+0) from aV) c3 ag ag w5 ag<|aE hfl ag ag ag ag ag (show az E 48 (H3.n+0) 0 (.agg #[.slice fp fn fc,iI fg]) (cY H3)=some (dH H3 fp fn fc fg) from cN qX rfl rfl rfl rfl) (show bC (cY H3) (dH H3 fp fn fc fg) [H3.n+0]=true from kW (y3.news [.cells [.slice none 0 0,iI 0] 48 false]) (aB [.cells [.slice none 0 0,iI 0] 48 false] H3 0 _ rfl))<|gm ag w6 c4 w7 aS)) aG aM (by rw [dP,cw,uR ig aa aa aa aa aa,Fb hfn Tu])
       ·have H9:H3.n+1≤H4.n:=by have h:=rj.n;rw [bF] at h;exact h
        exact aD.mk y (dj (DX x H H1 H2 fm H3 fp fn fc fg [.call (.bool false) H4 [],au 2]) (iI 0) H4 [H3.n+0] ir iu (aE w1 c1 c2 w2 h3 h4 h5 w3<|aE w4 ag (show (H3.n+0)<H3.n∨H3.n≤(H3.n+0) from aV) c3 ag ag w5 ag<|aE hfl ag ag ag ag ag (show az E 48 (H3.n+0) 0 (.agg #[.slice fp fn fc,iI fg]) (cY H3)=some (dH H3 fp fn fc fg) from cN qX rfl rfl rfl rfl) (show bC (cY H3) (dH H3 fp fn fc fg) [H3.n+0]=true from kW (y3.news [.cells [.slice none 0 0,iI 0] 48 false]) (aB [.cells [.slice none 0 0,iI 0] 48 false] H3 0 _ rfl))<|eY ag w6 c4 aS)) aG aM (by rw [dP,cw,uR ig aa aa aa aa aa,Iw hfn Tu])
 ·have jq:H.n+1≤H1.n:=by have h:=bN.n;rw [bF] at h;exact h
  have bz:=(y.news [.cells (eC x.f) 27 false]).kept bN aH (aB [.cells (eC x.f) 27 false] H 0 _ rfl)
  have ah1:fh.length=x.f.nk:=by rw [a.nk,← zx,cw]
  obtain ⟨_,H2,c2,dc,y2,oP⟩:=iL (yL y1 (Ni (some ⟨vA,0,none⟩) fh.length 2 fh 0 (qA hx y1) (.inr ⟨_,_,_,rfl,Nq⟩) rfl aa))
  rcases oP with ⟨rfl,ig⟩ |⟨rfl,ig⟩
  ·exact bA y [au 3,vl (.slice x.f.pk x.f.nk x.f.ck) (dG H x),au 1,.loop [1,3,9,10,11] (.exit 0) (bw [(1,pt (H.n+0) 0),(3,sc vA 0 fh.length 2)]) H1 [],au 0,.call (.bool true) H2 [],au 0] (iI 0) H2 ir iu (eY w1 c1 c2 aS) (by rw [dP,cw,G8 ig])
  ·have jI:H1.n+0≤H2.n:=dc.n
   have bI:=y1.kept dc aH bz
   have w2:aq E 3 (H.n+0) 0 H2=some (iI x.f.k):=bQ aR bI rfl
   cases h3:(x.f.k==1) with
   |true=>
    have q3:=bW h3
    exact bA y [au 3,vl (.slice x.f.pk x.f.nk x.f.ck) (dG H x),au 1,.loop [1,3,9,10,11] (.exit 0) (bw [(1,pt (H.n+0) 0),(3,sc vA 0 fh.length 2)]) H1 [],au 0,.call (.bool false) H2 [],au 0,vl (iI x.f.k) H2,aI,au 1] (iI 1) H2 ir iu (eM w1 c1 c2 w2 h3 aS) (by rw [dP,cw,Nl ig q3])
   |false=>
    have q3:=bK h3
    cases h4:(x.f.k==2) with
    |true=>
     have q4:=bW h4
     exact bA y [au 3,vl (.slice x.f.pk x.f.nk x.f.ck) (dG H x),au 1,.loop [1,3,9,10,11] (.exit 0) (bw [(1,pt (H.n+0) 0),(3,sc vA 0 fh.length 2)]) H1 [],au 0,.call (.bool false) H2 [],au 0,vl (iI x.f.k) H2,aF,au 0,aI,au 1] (iI 4) H2 ir iu (fG w1 c1 c2 w2 h3 h4 aS) (by rw [dP,cw,Nm ig q4])
    |false=>
     have q4:=bK h4
     cases h5:(x.f.k==3) with
     |true=>
      have q5:=bW h5
      have w3:aq E 2 (H.n+0) 5 H2=some (iI x.f.wide):=bQ jy bI rfl
      cases h6:(decide (x.f.wide>0)) with
      |true=>
       have q6:=aL h6
       exact bA y [au 3,vl (.slice x.f.pk x.f.nk x.f.ck) (dG H x),au 1,.loop [1,3,9,10,11] (.exit 0) (bw [(1,pt (H.n+0) 0),(3,sc vA 0 fh.length 2)]) H1 [],au 0,.call (.bool false) H2 [],au 0,vl (iI x.f.k) H2,aF,au 0,aF,au 0,aI,au 1,vl (iI x.f.wide) H2,aI,au 0] (iI 3) H2 ir iu (aE w1 c1 c2 w2 h3 h4 h5 w3<|cF h6 aS) (by rw [dP,cw,Nn ig q5 q6])
      |false=>
       have q6:=aQ h6
       exact bA y [au 3,vl (.slice x.f.pk x.f.nk x.f.ck) (dG H x),au 1,.loop [1,3,9,10,11] (.exit 0) (bw [(1,pt (H.n+0) 0),(3,sc vA 0 fh.length 2)]) H1 [],au 0,.call (.bool false) H2 [],au 0,vl (iI x.f.k) H2,aF,au 0,aF,au 0,aI,au 1,vl (iI x.f.wide) H2,aF,au 0] (iI 2) H2 ir iu (aE w1 c1 c2 w2 h3 h4 h5 w3<|cF h6 aS) (by rw [dP,cw,Jb ig q5 q6])
     |false=>
      have q5:=bK h5
      cases h6:(x.f.k==6) with
      |true=>
       have q6:=bW h6
       have w3:aq E 27 (H.n+0) 0 H2=some (.agg (eC x.f).toArray):=o7 bL aK bI rfl rfl
       have w4:0≤(0:Int):=aa
       have w5:(0:Int)<((fh.length:Nat):Int):=aa
       have uQ:=y1.kept dc aH Nq
       have w6:aq E 3 vA (0+(0:Int).toNat*1) H2=some (iI (kg fh 0)):=Z7 aR uQ aa aa
       have w7:0≤(1:Int):=aa
       have w8:(1:Int)<((fh.length:Nat):Int):=aa
       have w9:aq E 3 vA (0+(1:Int).toNat*1) H2=some (iI (kg fh 1)):=Z7 aR uQ aa aa
       obtain ⟨_,H3,c3,gB,y3,rfl⟩:=NY x.f X hx (kg fh 0) (kg fh 1) y2
       exact bA y [au 3,vl (.slice x.f.pk x.f.nk x.f.ck) (dG H x),au 1,.loop [1,3,9,10,11] (.exit 0) (bw [(1,pt (H.n+0) 0),(3,sc vA 0 fh.length 2)]) H1 [],au 0,.call (.bool false) H2 [],au 0,vl (iI x.f.k) H2,aF,au 0,aF,au 0,aF,au 0,aI,au 0,vl (.agg (eC x.f).toArray) H2,au 0,.ck,vl (iI (kg fh 0)) H2,au 0,.ck,vl (iI (kg fh 1)) H2,.call (iI (fC x.f (kg fh 0) (kg fh 1))) H3 [],au 0] (iI (fC x.f (kg fh 0) (kg fh 1))) H3 ir iu (aE w1 c1 c2 w2 h3 h4 h5 h6<|aE ag w3 ag ag w4 w5 ag w6<|aE ag ag w7 w8 ag w9 ag c3<|cU ag ag aS) (by rw [dP,cw,No ig q6])
      |false=>
       have q6:=bK h6
       cases h7:(x.f.k==7) with
       |true=>
        have q7:=bW h7
        have w3:0≤(0:Int):=aa
        have w4:(0:Int)<((fh.length:Nat):Int):=aa
        have uQ:=y1.kept dc aH Nq
        have w5:aq E 3 vA (0+(0:Int).toNat*1) H2=some (iI (kg fh 0)):=Z7 aR uQ aa aa
        cases h8:(decide ((kg fh 0)>2)) with
        |true=>
         have q8:=aL h8
         exact bA y [au 3,vl (.slice x.f.pk x.f.nk x.f.ck) (dG H x),au 1,.loop [1,3,9,10,11] (.exit 0) (bw [(1,pt (H.n+0) 0),(3,sc vA 0 fh.length 2)]) H1 [],au 0,.call (.bool false) H2 [],au 0,vl (iI x.f.k) H2,aF,au 0,aF,au 0,aF,au 0,aF,au 0,aI,au 1,.ck,vl (iI (kg fh 0)) H2,aI,au 0] (iI 0) H2 ir iu (aE w1 c1 c2 w2 h3 h4 h5 h6<|eM h7 w3 w4 w5 h8 aS) (by rw [dP,cw,Vw ig q7 q8])
        |false=>
         have q8:=aQ h8
         exact bA y [au 3,vl (.slice x.f.pk x.f.nk x.f.ck) (dG H x),au 1,.loop [1,3,9,10,11] (.exit 0) (bw [(1,pt (H.n+0) 0),(3,sc vA 0 fh.length 2)]) H1 [],au 0,.call (.bool false) H2 [],au 0,vl (iI x.f.k) H2,aF,au 0,aF,au 0,aF,au 0,aF,au 0,aI,au 1,.ck,vl (iI (kg fh 0)) H2,aF,au 0,.ck,vl (iI (kg fh 0)) H2,au 0] (iI (kg fh 0)) H2 ir iu (aE w1 c1 c2 w2 h3 h4 h5 h6<|aE h7 w3 w4 w5 h8 w3 w4 w5 aS) (by rw [dP,cw,RK ig q7 q8])
       |false=>
        have q7:=bK h7
        obtain ⟨_,H3,c3,gB,y3,fm,rfl,hfm⟩:=yL y2 (BF (qA hx y2))
        have xS:H2.n+0≤H3.n:=gB.n
        have ep:=y2.kept gB aH bI
        have w3:aq E 9 (H.n+0) 3 H3=some (.string x.f.s):=bQ bB ep rfl
        rcases hfm x.f.s with ⟨hfn,hfl⟩ |⟨fp,fn,fc,fts,fg,hfn,hfl,hfr,hfz,hf3⟩
        ·exact aD.mk y (dj [au 3,vl (.slice x.f.pk x.f.nk x.f.ck) (dG H x),au 1,.loop [1,3,9,10,11] (.exit 0) (bw [(1,pt (H.n+0) 0),(3,sc vA 0 fh.length 2)]) H1 [],au 0,.call (.bool false) H2 [],au 0,vl (iI x.f.k) H2,aF,au 0,aF,au 0,aF,au 0,aF,au 0,aF,au 0,.call (.map (some fm)) H3 [],au 0,vl (.string x.f.s) H3,.val (.tuple #[.agg #[.slice none 0 0,iI 0],.bool false]) H3 [] [fm],au 3,vl bJ (cY H3),au 5] (iI 0) (cY H3) [H3.n+0] ir iu (aE w1 c1 c2 w2 h3 h4 h5 h6<|aE h7 ag (show (H3.n+0)<H3.n∨H3.n≤(H3.n+0) from aV) c3 ag ag w3 ag<|aE hfl ag ag ag ag ag (show az E 48 (H3.n+0) 0 (.agg #[.slice none 0 0,iI 0]) (cY H3)=some (cY H3) from cN qX rfl rfl rfl rfl) (show bC (cY H3) (cY H3) [H3.n+0]=true from kW (y3.news [.cells [.slice none 0 0,iI 0] 48 false]) (aB [.cells [.slice none 0 0,iI 0] 48 false] H3 0 _ rfl))<|cF ag aS)) aG aM (by rw [dP,cw,uR ig aa aa aa aa aa,BC hfn])
        ·have w4:aq E 44 (H3.n+0) 0 (dH H3 fp fn fc fg)=some (.slice fp fn fc):=cI tn rfl rfl
         have uQ:=y1.kept dc aH Nq
         have Vu:=y2.kept gB aH uQ
         obtain ⟨_,H4,c4,rj,y4,Ht⟩:=iL (yL (y3.news [.cells [.slice fp fn fc,iI fg] 48 false]) (Ft fp fn fc fts (some ⟨vA,0,none⟩) fh.length 2 fh (qA hx (y3.news [.cells [.slice fp fn fc,iI fg] 48 false])) (Nx y3.wf [.cells [.slice fp fn fc,iI fg] 48 false] hfr) hfz aa (.inr ⟨_,_,_,rfl,y3.old Vu [.cells [.slice fp fn fc,iI fg] 48 false]⟩) rfl))
         rcases Ht with ⟨rfl,Tu⟩ |⟨rfl,Tu⟩
         ·have H9:H3.n+1≤H4.n:=by have h:=rj.n;rw [bF] at h;exact h
          have tP:=(y3.news [.cells [.slice fp fn fc,iI fg] 48 false]).kept rj aH (aB [.cells [.slice fp fn fc,iI fg] 48 false] H3 0 _ rfl)
          have w5:aq E 3 (H3.n+0) 1 H4=some (iI fg):=bQ aR tP rfl
          exact aD.mk y (dj [au 3,vl (.slice x.f.pk x.f.nk x.f.ck) (dG H x),au 1,.loop [1,3,9,10,11] (.exit 0) (bw [(1,pt (H.n+0) 0),(3,sc vA 0 fh.length 2)]) H1 [],au 0,.call (.bool false) H2 [],au 0,vl (iI x.f.k) H2,aF,au 0,aF,au 0,aF,au 0,aF,au 0,aF,au 0,.call (.map (some fm)) H3 [],au 0,vl (.string x.f.s) H3,.val (.tuple #[.agg #[.slice fp fn fc,iI fg],.bool true]) H3 [] [fm],au 3,vl bJ (dH H3 fp fn fc fg),au 4,vl (.slice fp fn fc) (dH H3 fp fn fc fg),au 0,.call (.bool true) H4 [],au 2,vl (iI fg) H4,au 0] (iI fg) H4 [H3.n+0] ir iu (aE w1 c1 c2 w2 h3 h4 h5 h6<|aE h7 ag (show (H3.n+0)<H3.n∨H3.n≤(H3.n+0) from aV) c3 ag ag w3 ag<|aE hfl ag ag ag ag ag (show az E 48 (H3.n+0) 0 (.agg #[.slice fp fn fc,iI fg]) (cY H3)=some (dH H3 fp fn fc fg) from cN qX rfl rfl rfl rfl) (show bC (cY H3) (dH H3 fp fn fc fg) [H3.n+0]=true from kW (y3.news [.cells [.slice none 0 0,iI 0] 48 false]) (aB [.cells [.slice none 0 0,iI 0] 48 false] H3 0 _ rfl))<|gm ag w4 c4 w5 aS)) aG aM (by rw [dP,cw,uR ig aa aa aa aa aa,Fb hfn Tu])
         ·have H9:H3.n+1≤H4.n:=by have h:=rj.n;rw [bF] at h;exact h
          exact aD.mk y (dj [au 3,vl (.slice x.f.pk x.f.nk x.f.ck) (dG H x),au 1,.loop [1,3,9,10,11] (.exit 0) (bw [(1,pt (H.n+0) 0),(3,sc vA 0 fh.length 2)]) H1 [],au 0,.call (.bool false) H2 [],au 0,vl (iI x.f.k) H2,aF,au 0,aF,au 0,aF,au 0,aF,au 0,aF,au 0,.call (.map (some fm)) H3 [],au 0,vl (.string x.f.s) H3,.val (.tuple #[.agg #[.slice fp fn fc,iI fg],.bool true]) H3 [] [fm],au 3,vl bJ (dH H3 fp fn fc fg),au 4,vl (.slice fp fn fc) (dH H3 fp fn fc fg),au 0,.call (.bool false) H4 [],au 2] (iI 0) H4 [H3.n+0] ir iu (aE w1 c1 c2 w2 h3 h4 h5 h6<|aE h7 ag (show (H3.n+0)<H3.n∨H3.n≤(H3.n+0) from aV) c3 ag ag w3 ag<|aE hfl ag ag ag ag ag (show az E 48 (H3.n+0) 0 (.agg #[.slice fp fn fc,iI fg]) (cY H3)=some (dH H3 fp fn fc fg) from cN qX rfl rfl rfl rfl) (show bC (cY H3) (dH H3 fp fn fc fg) [H3.n+0]=true from kW (y3.news [.cells [.slice none 0 0,iI 0] 48 false]) (aB [.cells [.slice none 0 0,iI 0] 48 false] H3 0 _ rfl))<|eY ag w4 c4 aS)) aG aM (by rw [dP,cw,uR ig aa aa aa aa aa,Iw hfn Tu])
theorem node6 {x:Xp} (h:gh x=true):(x.f.k=6→x.f.nk=2)∧(x.f.k=7→x.f.nk=1):=by
 rw [gh,Bool.and_eq_true,Bool.and_eq_true,Bool.and_eq_true] at h
 have ha:=h.2.2.2
 refine ⟨fun hk=>?_,fun hk=>?_⟩
 ·rw [PE hk,vK,Bool.and_eq_true,Bool.and_eq_true,Bool.and_eq_true,beq_iff_eq] at ha
  omega
 ·rw [TE hk,Fx,beq_iff_eq] at ha
  omega
theorem uX {x:Xp} (h:iW x=true):gh x=true∧∀ k∈x.kids,iW k=true:=by
 rw [cK,Bool.and_eq_true,Bool.not_eq_true'] at h
 refine ⟨h.1,?_⟩
 have key:∀ l:List Xp,tv l=false→∀ k∈l,iW k=true:=by
  intro l
  induction l with
  |nil=>intro _ k hk;cases hk
  |cons y l ih=>
   intro hb k hk
   rw [qI,Bool.or_eq_false_iff,Bool.not_eq_false'] at hb
   rcases List.mem_cons.1 hk with rfl |hk
   ·exact hb.1
   ·exact ih hb.2 k hk
 exact key _ h.2
theorem SX (x:Xp) (X:Hp) (hx:Gd E G X) (hs:jG X x):qB x→iW x=true→∀{H:Hp},Gd E X H→aD E X 14 [.agg (eC x.f).toArray] H [] (fun v _=>v=iI (bP x)):=by
 induction hs with
 |@mk x a hk ih=>
  intro hf hr H y
  cases hf with
  |mk hz hf=>exact abg x X hx a hz (fun k hk=>ih k hk (hf k hk) ((uX hr).2 k hk)) (node6 (uX hr).1).1 (node6 (uX hr).1).2 y
noncomputable def oY (x:Xp):Value:=bif fu x then (bif bP x==0 then .tuple #[iI 0,.iface 41 (iI 7)] else .tuple #[iI (bP x),.nilIface]) else .tuple #[iI 0,.iface 41 (iI 6)]
theorem Q1:E.func 7=some Tryz.f7:=ah
theorem Q2:bO Tryz.f7 1=true:=ah
noncomputable abbrev DY (x:Xp) (H:Hp) (H1:Hp) (H2:Hp) (l_:List Hint):=au 2::vl (.agg (eC x.f).toArray) (dG H x)::.call (.bool true) H1 []::au 0::vl (.agg (eC x.f).toArray) H1::.call (iI (bP x)) H2 []::au 1::l_
theorem Ee (x:Xp) (X:Hp) (hx:Gd E G X) (hs:jG X x) (hf:qB x) {H:Hp} (y:Gd E X H):aD E X 7 [.agg (eC x.f).toArray] H [] (fun v H'=>v=oY x):=by
 have w1:aq E 27 (H.n+0) 0 (dG H x)=some (.agg (eC x.f).toArray):=fQ bL aK rfl rfl rfl
 obtain ⟨_,H1,c1,bN,y1,eD⟩:=iL (O8 x X hx hs hf (y.news [.cells (eC x.f) 27 false]))
 rcases eD with ⟨rfl,ei⟩ |⟨rfl,ei⟩
 ·have jq:H.n+1≤H1.n:=by have h:=bN.n;rw [bF] at h;exact h
  have g1:=y1.n
  have bz:=(y.news [.cells (eC x.f) 27 false]).kept bN aH (aB [.cells (eC x.f) 27 false] H 0 _ rfl)
  have w2:aq E 27 (H.n+0) 0 H1=some (.agg (eC x.f).toArray):=o7 bL aK bz rfl rfl
  have hrx:iW x=true:=by rw [fu,Bool.and_eq_true] at ei;exact ei.2
  obtain ⟨_,H2,c2,dc,y2,rfl⟩:=SX x X hx hs hf hrx y1
  cases h2:((bP x)==0) with
  |true=>
   exact bA y (DY x H H1 H2 [aI,au 2]) (.tuple #[iI 0,.iface 41 (iI 7)]) H2 Q1 Q2 (eM w1 c1 w2 c2 h2 aS) (by rw [oY,ei,h2] <;> rfl)
  |false=>
   exact bA y (DY x H H1 H2 [aF,au 2]) (.tuple #[iI (bP x),.nilIface]) H2 Q1 Q2 (eM w1 c1 w2 c2 h2 aS) (by rw [oY,ei,h2] <;> rfl)
 ·exact bA y [au 2,vl (.agg (eC x.f).toArray) (dG H x),.call (.bool false) H1 [],au 3] (.tuple #[iI 0,.iface 41 (iI 6)]) H1 Q1 Q2 (cU w1 c1 aS) (by rw [oY,ei] <;> rfl)
end Go.Proofs.YtglmagcldkngbaaGreatDoor
