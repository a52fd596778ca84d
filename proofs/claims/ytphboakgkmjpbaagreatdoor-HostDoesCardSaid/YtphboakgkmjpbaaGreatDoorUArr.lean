/- Out of the kit's words for this seat: what this seat's texts use (wip/tools/prune.py). -/
import Derived.Test.YtphboakgkmjpbaaGreatDoorUWords
